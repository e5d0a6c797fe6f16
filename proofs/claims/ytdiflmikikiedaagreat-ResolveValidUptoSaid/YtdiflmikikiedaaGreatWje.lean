/-
  What the claim stands on, part 5: Mk24 Mg24 Gco De24 Dnn Rw24 Ni13 Mn Lay Srt Ms Ids Usd Rf0 Dlr Ccl Cst Dcl.
-/
import Derived.Test.YtdiflmikikiedaaGreatWjd
import Derived.Shelf.SlIterI.Nil
import Derived.Shelf.SortM.Plain
import Derived.Shelf.SortM.SortNone
namespace Go.Proofs.YtdiflmikikiedaaGreat
set_option linter.all false
open Go.Proofs.Tryz
open Go.RowKit
theorem apA:aQ 211:=aR func211 rfl
theorem aeY:aQ 62:=aR func62 rfl
theorem tF:Ty prog 242 2 16 [.int .i64 0,.bool false] true:=⟨by kernel_rfl,by kernel_rfl⟩
theorem ajF:qK prog 242 [(0,1),(1,1)] [.int .i64 0,.bool false]:=⟨by kernel_rfl,by kernel_rfl⟩
theorem apB:aQ 213:=aR func213 rfl
theorem afn:dH prog 242 0 0:=⟨by kernel_rfl⟩
theorem afo:dH prog 242 1 1:=⟨by kernel_rfl⟩
theorem apC:aQ 214:=aR func214 rfl
theorem apD:aQ 215:=aR func215 rfl
theorem avw (G:GH) (w0:World) (hG:Hold G w0) (l:List gF) (p:gF->Bool) (v fv:ah) (hv:au G (.sl 2 (l.map gF.dat)) v) (hf:∀ x∈l,uG fv G x.dat (p x)) :
  Calls prog 211 #[v,fv] w0 (bK w0 G fun u G'=>u=vi (nY (l.findIdx? p))):=by
 obtain ⟨A,c,rfl,hc1,hc2,hg⟩:=hv.slice;have hml:maxLen=9223372036854775807:=rfl;rw [bQ] at *;refine eN [(0,_),(1,_)] func211 rfl ntmps211 rfl rfl hG ?_;intro a H;refine kP H (SR fun _ K1=>aj K1 rfl (SQ fun _ K2=>SR fun _ K3=>Rm rfl (Rl oz rfl (Rm rfl (Kz K3 (SB ?_))))));clear H K1 K3;intro a H;skip;refine eX (ι:=Nat × GH) (Tc:=[(0,_),(1,_),(7,_)]) (Lc:=[]) (fun gh=>[(8,vi gh.1)]) (fun gh=>[]) (fun gh=>gh.2) (fun gh=>gh.1<=l.length∧(l.take gh.1).findIdx? p=none∧(∀ b o,G b=some o->gh.2 b=some o)) (fun gh=>l.length - gh.1) ((0,G)) (by exact H.sub ⟨rfl,rfl,rfl,rfl,aB⟩) ?_ ?_
 ·exact Aq
 clear H;rintro ⟨k,g⟩ a w hI H;dsimp only at hI H;obtain ⟨hk,hno,hgm⟩:=hI;dsimp only [lca,bJ] at H;refine kP H (SR fun _ K4=>Rc rfl (Kz K4 (SQ fun _ K5=>Cd rfl ?_ ?_))) <;> clear H K4
 ·intro h9 a H
  try have p9:=dT h9
  have hk2:k < l.length:=by omega
  obtain ⟨b,o,cs,rfl,hcl,hrow,hrep⟩:=hg k l[k].dat (by simp [hk2]);obtain rfl:=MI hrep;replace hrow:=fun j u hj=>aF hgm (hrow j u hj);refine kP H (Kc K5 (SQ fun _ K6=>SB (SR fun _ K7=>Rm rfl (aj K7 rfl (SR fun _ K8=>Rm rfl (Rm rfl (Rm rfl (Ri oz om rfl rfl ?_))))))));clear H K5 K7;intro a H;refine bP om (cs:=[_,_]) H wn rfl rfl (fun j v hj=>H.hp.aH (hrow j v hj)) rfl ?_;clear H;intro a H;refine kX H wn rfl rfl (hf _ (jB hk2) _ _ _ hgm H.ro (hrep.mono hgm)) rfl ?_;clear H;rintro v16 uD a w rfl uh H;refine K8 _ _ ?_;clear K8;refine jS H rfl ?_ ?_
  ·intro h16
   try have p16:=dT h16
   refine kP H (SR fun _ K9=>Rm rfl (aj K9 rfl ?_));clear H K9;intro a H;refine lr H results211 rfl ?_
   exact xE
  exact JG
 intro h9 a H
 try have p9:=dF h9
 refine dP ?_;refine K2 _ _ ?_;clear K2;refine kP H (SR fun _ aW=>aj aW rfl ?_);clear H aW;intro a H;refine lr H results211 rfl ?_
 exact xE
theorem adP (G:GH) (w0:World) (hG:Hold G w0) (l:List gF) (p:gF->Bool) (v fv:ah) (hv:au G (.sl 2 (l.map gF.dat)) v) (hf:∀ x∈l,uG fv G x.dat (p x)) :
  Calls prog 157 #[v,fv] w0 (bK w0 G fun u G'=>u=.bool (l.findIdx? p).isSome):=by
 refine eN [(0,_),(1,_)] func157 rfl ntmps157 rfl rfl hG ?_;intro a H;refine kP H (SR fun _ K1=>aj K1 rfl (SR fun _ K2=>Rm rfl (Rm rfl ?_)));clear H K1;intro a H;refine s_call apA H wn rfl (avw _ _ H.ro l p _ _ hv hf) rfl ?_;clear H;rintro v7 G7 a w rfl vQ H;refine kH H (Rc rfl (aj K2 rfl ?_));clear H K2;intro a H;refine lr H results157 rfl ?_
 exact H.rt (by cases h:l.findIdx? p <;> simp [nY])
theorem Yc (G:GH) (w0:World) (hG:Hold G w0) (l:List Int) (t:Int) (v:ah) (hv:au G (.sl 1 (l.map fun k=>[li k])) v) (hl:l.length<=4294967296) :
  Calls prog 76 #[v,vi t] w0 (bK w0 G fun u G'=>u=.bool (oI l t)):=by
 refine eN [(0,_),(1,_)] func76 rfl ntmps76 rfl rfl hG ?_;intro a H;refine kP H (SR fun _ K1=>aj K1 rfl (SR fun _ K2=>Rm rfl (Rm rfl ?_)));clear H K1;intro a H;refine s_call aeY H wn rfl (ade _ _ H.ro l t _ hv hl) rfl ?_;clear H;rintro v10 Ev a w ⟨rfl,rfl⟩ DV H;refine kH H (Rm rfl ?_);clear H;intro a H;(iterate 2 refine mg H wn rfl rfl rfl ?_;clear H;intro a H);exact kH H (Ra rfl (aj K2 rfl (SR fun _ K3=>Rm rfl (aj K3 rfl (LR results76 rfl fun H=>H.rt rfl)))))
abbrev IQ (s:Int × Bool):ah:=.agg #[vi s.1,.bool s.2]
theorem alD (G:GH) (w0:World) (hG:Hold G w0) (y:bS):Calls prog 161 #[.agg y.cells.toArray] w0 (bK w0 G fun u G'=>u=IQ (y.before,y.had)):=by
 refine eN [(0,_)] func161 rfl ntmps161 rfl rfl hG ?_;intro a H;refine cO (fun _ K1=>?_);refine dW (cs:=[_,_,_,_]) H wn rfl rfl rfl ?_;clear H;intro b1 a w hb1 H;refine dO tF H wn rfl ?_;clear H;intro b2 a w hb2 H;refine K1 _ _ ?_;clear K1;refine kP H (SR fun _ K2=>bq EK aC 1 rfl rfl (bq P8 Db 1 rfl rfl ?_));clear H;intro a H;refine jD ajF [_,_] H wn rfl rfl rfl rfl ?_;clear H;intro a H;refine bC tF 0 (vs:=[_,_]) H wn rfl ?_;clear H;intro w H;refine K2 _ _ ?_;clear K2;refine eO ?_;refine (leave1 H results161 (.cons (ny tF (cs:=[_,_]) H rfl rfl (H.hp.dx 0 rfl rfl)) .nil) ?_).1;exact wz
theorem axH (G:GH) (w0:World) (hG:Hold G w0) (h:dJ) (p d l:ah) (hh:jy G h p d l) (k:Int) (hl:h.props.length<=4294967296):Calls prog 162 #[rX h p d l,vi k] w0 (bK w0 G fun u G'=>u=IQ (kU h.props k)):=by
 obtain ⟨pA,pn,pc,rfl⟩:=hh.props.form;obtain ⟨dA,dn,dc,rfl⟩:=hh.bE.form;obtain ⟨lA,ln,lc,rfl⟩:=hh.layers.form;refine eN [(0,_),(1,_)] func162 rfl ntmps162 rfl rfl hG ?_;intro a H;refine cO (fun _ K1=>?_);refine dW (cs:=[_,_,_,_,_]) H wn rfl rfl rfl ?_;clear H;intro b2 a w hb2 H;refine dO tF H wn rfl ?_;clear H;intro b4 a w hb4 H;refine K1 _ _ ?_;clear K1;refine kP H (SR fun _ K2=>bq yL vk 1 rfl rfl (Rm rfl ?_));clear H;intro a H;refine s_call apB H wn rfl (arP _ _ H.ro h.props k _ hh.props hl) rfl ?_;clear H;rintro v11 zq a w rfl DW H;refine kH H (Rm rfl ?_);clear H;intro a H;(iterate 2 refine mg H wn rfl rfl rfl ?_;clear H;intro a H);refine kH H (Ra rfl (aj K2 rfl (SR fun _ K3=>Rm rfl (Rm rfl ?_))));clear H K2;intro a H;refine jD ajF [_,_] H wn rfl rfl rfl rfl ?_;clear H;intro a H;refine bC tF 0 (vs:=[_,_]) H wn rfl ?_;clear H;intro w H;refine K3 _ _ ?_;clear K3;refine eO ?_;refine (leave1 H results162 (.cons (ny tF (cs:=[_,_]) H rfl rfl (H.hp.dx 0 rfl rfl)) .nil) ?_).1;exact wz
theorem alU {p:Prop} (h:p:=by
 exact Dx HT Hb hG hv (fun _ _ _ _ _ h=>h) H rfl):p:=h
theorem GD {p:Prop} (h:p:=by
 clear H;intro a H;refine aD ⟨rfl,?_⟩;exact alU):p:=h
theorem Ml {p:Prop} (h:p:=by
 intro _ _ _ _ _ hB;exact gL):p:=h
theorem abF {p:Prop} (h:p:=by
 clear H;intro w H;refine aD ⟨rfl,?_⟩;exact aoc rfl HT hG hv H):p:=h
theorem abP {p:Prop} (h:p:=by
 clear aO;have H:=H.aM (hv 2 7 (hc 2 (by decide)) rfl) rfl;have Hb:=H.full;have H:=Hb;clear hc;refine kH H (Ro Db 1 rfl ?_);exact GD):p:=h
theorem abY {p:Prop} (h:p:=by
 clear aO;have Hb:=H.full;have H:=Hb;clear hc;refine kH H (Rf afo rfl ?_);exact GD):p:=h
theorem arM (G:GH) (w0:World) (hG:Hold G w0) (y:bS) (s:Int × Bool):Calls prog 163 #[.agg y.cells.toArray,IQ s] w0 (bK w0 G fun u G'=>u=.agg (bS.cells ⟨y.rev,y.key,s.1,s.2⟩).toArray):=by
 refine eN [(0,_),(1,_)] func163 rfl ntmps163 rfl rfl hG ?_;intro a H;refine cO (fun _ K1=>?_);refine dW (cs:=[_,_,_,_]) H wn rfl rfl rfl ?_;clear H;intro b2 a w hb2 H;refine dW (cs:=[_,_]) H wn rfl rfl rfl ?_;clear H;intro b3 a w hb3 H;refine dO jN H wn rfl ?_;clear H;intro b4 a w hb4 H;refine K1 _ _ ?_;clear K1;refine bD (fun _ K2=>?_);refine adl (hmx) [[],[0],[],[2],[0,1],[0,1,4],ra 0 6,ra 0 7] [6,7] (by kernel_rfl) (by kernel_rfl) 5 (by decide) (fun (bT:Nat) (v:ah) (G:GH)=>match bT with|0=>v=(aJ b3 0)|1=>v=vi s.1|2=>v=(aJ b3 1)|3=>v=.bool s.2|4=>v=(aJ b2 2)|_=>True) 2 ((b2,.cells #[vi y.rev,vi y.key,vi s.1,.bool y.had] 161 (0,0))) H ?_ ?_ ?_ ?_ (by kernel_rfl)
 ·clear H;refine ay ?_ ?_ ?_ ?_ (ay ?_ ?_ (bR rfl) (bR rfl) cK)
  ·intro bH a w G1 _ _ aO hc hG HT hv;have H:=HT;clear aO;have Hb:=H.full;have H:=Hb;clear hc;refine kH H (Rf afn rfl ?_);exact GD
  ·intro bH a w G1 _ _ aO hc hG HT hv;have H:=HT;clear aO;have H:=H.aM (hv 0 5 (hc 0 (by decide)) rfl) rfl;have Hb:=H.full;have H:=Hb;clear hc;refine kH H (Ro aC 1 rfl ?_);exact GD
  ·intro bH a w G1 _ _ aO hc hG HT hv;have H:=HT;exact abY
  ·intro bH a w G1 _ _ aO hc hG HT hv;have H:=HT;exact abP
  ·intro bH a w G1 _ _ aO hc hG HT hv;have H:=HT;clear aO;have Hb:=H.full;have H:=Hb;clear hc;refine kH H (Rf EK rfl ?_);exact GD
  exact Ml
 ·clear H;intro o_ bH a w G1 qB _ hc hG HT hv;obtain rfl:_=o_:=Option.some.inj qB;clear qB;have H:=HT;have H:=H.aM (hv 4 9 (hc 4 (by decide)) rfl) rfl;have H:=H.aM (hv 1 6 (hc 1 (by decide)) rfl) rfl;have Hb:=H.full;have H:=Hb;clear hc;refine bC aC 2 (vs:=[_]) H wn rfl ?_;exact abF
 ·clear H;refine ay (bR rfl) (bR rfl) ?_ ?_ (ay (bR rfl) ?_ (bR rfl) (bR rfl) cK)
  ·intro bH a w G1 _ _ aO hc hG HT hv;have H:=HT;dsimp only [List.set,List.append,lca,bJ] at H;exact abY
  ·intro bH a w G1 _ _ aO hc hG HT hv;have H:=HT;dsimp only [List.set,List.append,lca,bJ] at H;exact abP
  exact Ml
 clear H;intro a w G nJ H hv;dsimp only [List.set,List.append,lca,bJ] at H;have H:=H.aM (hv 3 8 rfl rfl) rfl;clear hv;refine kH H (Rf P8 rfl ?_);clear H;intro a H;refine bC Db 2 (vs:=[_]) H wn rfl ?_;clear H;intro w H;refine aD ⟨rfl,?_⟩;refine K2 _ _ ?_;clear K2;refine cO (fun _ K3=>?_);refine bP jN (cs:=[_,_,_,_]) H wn rfl rfl (H.hp.dx 2 rfl rfl) rfl ?_;clear H;intro a H;refine bC jN 0 (vs:=[_,_,_,_]) H wn rfl ?_;clear H;intro w H;refine K3 _ _ ?_;clear K3;refine eO ?_;refine (leave1 H results163 (.cons (ny jN (cs:=[_,_,_,_]) H rfl rfl (H.hp.dx 0 rfl rfl)) .nil) ?_).1;exact wz
theorem aBl (G:GH) (w0:World) (hG:Hold G w0) (ps:List aL) (io mo:Int) (p:ah) (dA lA:Option Addr) (dn dc ln lc:Nat) (hp:au G (.sl 2 (ps.map aL.dat)) p) (k:Int) (s:Int × Bool) (hl:ps.length<=4294967295) :
  Calls prog 164 #[.agg #[p,vi io,vi mo,.slice dA dn dc,.slice lA ln lc],vi k,IQ s] w0 (bK w0 G fun u G'=>∃ p',u=.agg #[p',vi io,vi mo,.slice dA dn dc,.slice lA ln lc]∧au G' (.sl 2 ((vw ps k s).map aL.dat)) p'):=by
 obtain ⟨pA,pn,pc,rfl⟩:=hp.form;refine eN [(0,_),(1,_),(2,_)] func164 rfl ntmps164 rfl rfl hG ?_;intro a H;refine cO (fun _ K1=>?_);refine dW (cs:=[_,_,_,_,_]) H wn rfl rfl rfl ?_;clear H;intro b3 a w hb3 H;refine dW (cs:=[_,_]) H wn rfl rfl rfl ?_;clear H;intro b5 a w hb5 H;refine dO fH H wn rfl ?_;clear H;intro b6 a w hb6 H;refine K1 _ _ ?_;clear K1;refine kP H (SQ fun _ K2=>SR fun _ K3=>bq afo Db 1 rfl rfl (Kz K3 (Cd rfl ?_ ?_))) <;> clear H K3
 ·intro h8 a H
  try have p8:=dT h8
  refine kP H (SC (bq yL vk 2 rfl rfl (Rm rfl (bq afn aC 1 rfl rfl ?_))));clear H;intro a H;refine s_call apC H wn rfl (azL _ _ H.ro ps k s.1 _ hp hl) rfl ?_;clear H;rintro v14 Ew a w uV DY H;obtain ⟨Tg,n14,c14,rfl⟩:=uV.form;refine kH H (Rf yL rfl ?_);clear H;intro a H;refine bC vk 2 (vs:=[_]) H wn rfl ?_;clear H;intro w H;refine aD ?_;refine K2 _ _ ?_;clear K2;refine cO (fun _ K4=>?_);refine bP fH (cs:=[_,_,_,_,_]) H wn rfl rfl (H.hp.dx 2 rfl rfl) rfl ?_;clear H;intro a H;refine bC fH 0 (vs:=[_,_,_,_,_]) H wn rfl ?_;clear H;intro w H;refine K4 _ _ ?_;clear K4;refine eO ?_;refine (leave1 H results164 (.cons (ny fH (cs:=[_,_,_,_,_]) H rfl rfl (H.hp.dx 0 rfl rfl)) .nil) ?_).1;exact H.rt ⟨_,rfl,by rw [vw,aG (by assumption)];exact uV⟩
 intro h8 a H
 try have p8:=dF h8
 refine kP H (SC (bq yL vk 2 rfl rfl (Rm rfl ?_)));clear H;intro a H;refine s_call apD H wn rfl (anj _ _ H.ro ps k _ hp hl) rfl ?_;clear H;rintro v19 I8 a w Nl uj H;obtain ⟨I6,n19,c19,rfl⟩:=Nl.form;refine kH H (Rf yL rfl ?_);clear H;intro a H;refine bC vk 2 (vs:=[_]) H wn rfl ?_;clear H;intro w H;refine aD ?_;refine K2 _ _ ?_;clear K2;refine cO (fun _ K5=>?_);refine bP fH (cs:=[_,_,_,_,_]) H wn rfl rfl (H.hp.dx 2 rfl rfl) rfl ?_;clear H;intro a H;refine bC fH 0 (vs:=[_,_,_,_,_]) H wn rfl ?_;clear H;intro w H;refine K5 _ _ ?_;clear K5;refine eO ?_;refine (leave1 H results164 (.cons (ny fH (cs:=[_,_,_,_,_]) H rfl rfl (H.hp.dx 0 rfl rfl)) .nil) ?_).1;exact H.rt ⟨_,rfl,by rw [vw,av (by simp_all)];exact Nl⟩
theorem aeJ:aQ 212:=aR func212 rfl
def gP (q:Int × List bS):AP:=fun args g=>∃ v,args=[vi q.1,v]∧au g (.sl 4 (q.2.map bS.dat)) v
theorem afJ {A:List (Int × List bS)} {k:Nat} {args:List ah} {g:GH} (h:wZ (A.map gP) k args g):∃ (hk:k < A.length) (B:Option Addr) (c:Nat),args=[vi A[k].1,.slice B A[k].2.length c]∧au g (.sl 4 (A[k].2.map bS.dat)) (.slice B A[k].2.length c):=by
 obtain ⟨p,hp,hargs⟩:=h;rw [qL] at hp;obtain ⟨q,hq,rfl⟩:=pF.1 hp;obtain ⟨hk,rfl⟩:=jQ.1 hq;obtain ⟨v,h1,h2⟩:=hargs;obtain ⟨B,n,c,rfl⟩:=h2.form;have hn:=h2.len;rw [bQ] at hn;subst hn;exact ⟨hk,B,c,h1,h2⟩
theorem au.hd {G:GH} {sz:Nat} {rows:List (List Dat)} {A:Option Addr} {n c:Nat} (h:au G (.sl sz rows) (.slice A n c)) (m:Nat) (hm:m<=rows.length):au G (.sl sz (rows.take m)) (.slice A m c):=by
 have h2:=h.part 0 m (kE _) hm;obtain ⟨A',c',he,hc1,-,-⟩:=h.slice;rw [wu,Nat.sub_zero,Nat.sub_zero] at h2
 by_cases hc:c=0
 ·rw [aG hc] at h2;exact h2
 rw [av hc] at h2
 cases A with
 | none=>exact h2
 | some p=>simpa [Addr.add] using h2
theorem Zf {α:Type} {p:α->Bool}:∀ (r:List α) (i:Nat) (hi:i < r.length),i<=(r.takeWhile p).length->(p r[i]=true↔i < (r.takeWhile p).length)
 | [],_,hi,_=>absurd hi (by simp)
 | x :: r,i,hi,h=>by
  rw [List.takeWhile_cons] at h |-
  cases hx:p x
  ·rw [hx] at h
   simp only [Gj,if_false,List.length_nil,Nat.le_zero] at h
   subst h
   simp [hx]
  rw [hx] at h
  simp only [if_true,kS] at h |-
  cases i with
  | zero=>simp [hx]
  | succ i=>simpa using Zf r i (by simpa using hi) (by omega)
theorem ajT {α:Type} {p:α->Bool} (r:List α):r.drop (r.takeWhile p).length=r.dropWhile p:=by
 conv=>lhs;rw [<- List.takeWhile_append_dropWhile (p:=p) (l:=r)]
 rw [List.drop_append_of_le_length (by simp [List.takeWhile_append_dropWhile])]
 simp [List.takeWhile_append_dropWhile]
theorem ajU {α:Type} {p:α->Bool} (r:List α):r.take (r.takeWhile p).length=r.takeWhile p:=by
 have:=List.take_left (l₁:=r.takeWhile p) (l₂:=r.dropWhile p)
 rwa [List.takeWhile_append_dropWhile] at this
theorem aaV {p:Prop} (h:p:=by
 first
  | exact H.hp.jY (L':=OT) (by repeat (first|exact jE _|apply List.Sublist.cons)) (.inr (hb2 (by simpa using pU)))
  | exact H.hp.fQ (.inl (by
    have:=fI.len;rw [show rest=[] from List.eq_nil_of_length_eq_zero (by omega)] at this
    cases f <;> (simp only [rE,List.length_nil,zy] at this;first|(rw [bQ,<- this];exact fI.now)|(rw [<- this];exact fI.now))))):p:=h
theorem alV {p:Prop} (h:p:=by
 exact h1.mono fun b o h=>Xf b o (lF b o (rV b o (hg3 b o h)))):p:=h
theorem acn {p:Prop} (h:p:=by
 by_cases hlt:m < 1+(r.takeWhile p).length
 ·exfalso
  have h1:=(Zf (p:=p) r (m - 1) (by omega) (by omega)).2 (by omega);have h3:=hkm (by omega)
  have h2:(y :: r)[m]=r[m - 1]:=by
   obtain ⟨q,rfl⟩:∃ q,m=q+1:=⟨m - 1,by omega⟩
   rfl
  have h4:=pI ((congrFun hp _).symm.trans h1);rw [h2] at h3;rw [h3] at h4
  first|exact p26 h4|exact c0 (by omega)
 omega):p:=h
theorem aco {p:Prop} (h:p:=by
 (try dsimp only);refine ⟨by rw [List.length_drop];omega,by rw [List.length_drop];omega,fun b o h=>Xf b o (lF b o (rV b o (hg3 b o (hgm b o h)))),?_,fI.step (hb1 (by simpa using pU))⟩;have h1:=qU.part m (y :: r).length (by omega) (by simp);rw [<- List.map_drop,nU (by simp)] at h1;rw [List.length_drop];exact alV):p:=h
theorem abx {p:Prop} (h:p:=by
 intro pU
 try have p38:=dT pU
 refine eO ?_;refine (leave0 H results212 ?_).1
 exact aaV):p:=h
theorem abQ {p:Prop} (h:p:=by
 refine dY 5 34 6 35 rfl rfl fun _ a w G1 hG HT H fin=>?_;refine IL lK jN m H wn rfl rfl rfl (by omega) rfl ?_;exact jk):p:=h
theorem abV {p:Prop} (h:p:=by
 refine gZ 1 30 rfl rfl fun _ a w G1 hG HT H fin=>?_;refine vX lK jN 0 H wn rfl rfl rfl (by simp) rfl ?_;exact jk):p:=h
set_option maxHeartbeats 2000000 in
theorem arT {G:GH} {bd:Nat} {l:List bS} {v:ah} (hb:aH G bd 4=some v) (hv:au G (.sl 4 (l.map bS.dat)) v) (hz:l.length<=4294967290) :
  Iter prog G (.func (.func 212) #[] #[(aJ bd 0)]) ((rE l.length l).map gP):=by
 intro J Jx fv G1 L w0 J9 hGi qy hJx hJ hO hcb;refine jJ (caps:=[(aJ bd 0)]) aeJ ?_;obtain ⟨A,c,rfl,hc1,hc2,hg⟩:=hv.slice;rw [bQ] at *;replace hb:=aF hGi hb;refine jc (N:=42) (T:=[(0,_),(1,_)]) func212 rfl ntmps212 rfl rfl hO ?_;intro a H;refine kP H (SR fun _ K1=>Rf qo rfl (Rf Az rfl (Rg BD rfl hb (aj K1 rfl (SB ?_)))));clear H K1;intro a H;skip;refine eX (ι:=Nat × List bS × Option Addr × Nat × Nat × OL × GH) (Tc:=[(0,_)]) (Lc:=[]) (fun gh=>[(3,.slice gh.2.2.1 gh.2.1.length gh.2.2.2.1)]) (fun gh=>[]++gh.2.2.2.2.2.1) (fun gh=>gh.2.2.2.2.2.2) (fun gh=>gh.2.1.length<=gh.1∧gh.2.1.length<=4294967290∧(∀ b o,G1 b=some o->gh.2.2.2.2.2.2 b=some o)∧au gh.2.2.2.2.2.2 (.sl 4 (gh.2.1.map bS.dat)) (.slice gh.2.2.1 gh.2.1.length gh.2.2.2.1)∧Now ((rE l.length l).map gP) gP J (rE l.length l).length gh.2.2.2.2.1 (rE gh.1 gh.2.1) gh.2.2.2.2.2.2 gh.2.2.2.2.2.1) (fun gh=>gh.2.1.length) ((l.length,l,A,c,0,L,G1)) (by exact H.sub ⟨rfl,rfl,aB⟩) ?_ ?_
 ·exact ⟨eu _,hz,fun _ _ h=>h,hv.mono hGi,⟨hJ,fun i a h=>by rw [gI,qL];rw [h];rfl,by simp⟩⟩
 clear H;rintro ⟨f,rest,B,d,j1,Lt,g⟩ a w hI H;dsimp only at hI H;obtain ⟨hf,hzr,hgm,qU,fI⟩:=hI;dsimp only [lca,bJ] at H;refine kP H (SQ fun _ K2=>SR fun _ K3=>Rm rfl (Rl lK rfl (Rc rfl (Kz K3 (Cd rfl ?_ ?_))))) <;> clear H K3
 ·intro h10 a H
  try have nN:=dT h10
  obtain ⟨y,r,rfl⟩:∃ y r,rest=y :: r:=by cases rest with|nil=>simp at nN|cons y r=>exact ⟨y,r,rfl⟩
  obtain ⟨f,rfl⟩:∃ f',f=f'+1:=⟨f - 1,by rw [kS] at hf;omega⟩;rw [rE] at fI;obtain ⟨b,o,rfl,hr0⟩:=Fj qU (k:=0) (by simp);obtain ⟨p,hp⟩:∃ p:bS->Bool,p=fun z=>decide (z.key=y.key):=⟨_,rfl⟩;rw [<- hp] at fI;refine kP H (Kc K2 (SB (SR fun _ K4=>aj K4 rfl (SQ fun _ K5=>SB ?_))));clear H K2 K4;intro a H;skip;refine eX (ι:=Nat × GH) (Tc:=[(0,_),(3,_)]) (Lc:=[]) (fun gh=>[(4,vi gh.1)]) (fun gh=>[]++Lt) (fun gh=>gh.2) (fun gh=>1<=gh.1∧gh.1<=1+(r.takeWhile p).length∧(∀ b o,g b=some o->gh.2 b=some o)) (fun gh=>(y :: r).length - gh.1) ((1,g)) (by exact H.sub ⟨rfl,rfl,rfl,aB⟩) ?_ ?_
  ·exact ⟨eu _,by omega,fun _ _ h=>h⟩
  clear H;rintro ⟨m,g3⟩ a w hI H;dsimp only at hI H;obtain ⟨hm1,hm2,hg3⟩:=hI;dsimp only [lca,bJ] at H;refine bD (fun _ K6=>?_);refine bD (fun _ K7=>?_)
  obtain ⟨km,hkm⟩:∃ km:Int,∀ (h:m < (y :: r).length),(y :: r)[m].key=km:=by
   by_cases h:m < (y :: r).length
   ·exact ⟨((y :: r)[m]'h).key,fun _=>rfl⟩
   exact ⟨0,fun h2=>absurd h2 h⟩
  have hkc:m < (y :: r).length->aH g b (o+m*4+1)=some (vi km):=fun h=>by
   obtain ⟨b',o',he,hrm⟩:=Fj qU (k:=m) h
   injection he with he
   injection he with e1 e2
   subst e1 e2;rw [<- hkm h];exact hrm 1 _ rfl
  have hlen:(y :: r).length=r.length+1:=rfl
  have hdc:(y :: r).length<=d:=by
   obtain ⟨_,_,he,h1,-,-⟩:=qU.slice
   injection he with _ _ e3
   rw [bQ] at h1
   omega
  have htl:(r.takeWhile p).length<=r.length:=(List.takeWhile_sublist (l:=r) p).length_le
  by_cases c0:(m:Int) < ((y :: r).length:Int)
  ·skip;refine dI hmx [[],[],[1],[0,1,2],ra 0 4,ra 0 5,ra 0 5,ra 0 7,ra 0 8,ra 0 9,ra 0 5,[0,1,2,3,4,10],[0,1,2,3,4,10,11],[0,1,2,3,4,10,11,12],ra 0 14,ra 0 15] [] (by kernel_rfl) [_,_,_,_,_,_,_,(aJ b (o+m*4)),_,_,_,(aJ b (o+0*4)),_,_,_,_] H (ay (Z0 rfl (Rm rfl)) (Z0 rfl (Rm rfl)) (Z1 1 12 rfl (Rl lK rfl)) (Z2 0 11 2 13 rfl (Rc rfl)) (ay (Z1 3 14 rfl (Rm rfl)) (Z1 4 15 rfl (YM (aI c0) rfl)) (Z1 4 15 rfl (YM (aI c0) rfl)) ?_ (ay (Z2 7 18 4 15 rfl (YF yK (aI c0) rfl)) (X2 8 19 4 15 rfl fun hG=>YR aC (aI c0) rfl (aF hG (aF hg3 (hkc (by omega))))) (Z1 4 15 rfl (YM (aI c0) rfl)) ?_ (ay (Z2 11 22 4 15 rfl (YF yK (aI c0) rfl)) (X2 12 23 4 15 rfl fun hG=>YR aC (aI c0) rfl (aF hG (aF hg3 (hr0 1 _ rfl)))) (Z3 9 20 13 24 4 15 rfl (YC (aI c0) rfl)) (Z2 4 15 14 25 rfl (Pt (aI c0) rfl)) cK)))) ?_
   ·refine vZ 5 16 6 17 4 15 rfl rfl fun _ a w G1 hG HT H fin=>?_;refine vX lK jN m H (wg H rfl rfl (aI c0)) rfl rfl rfl (by omega) rfl ?_;exact jk
   ·refine dY 10 21 4 15 rfl rfl fun _ a w G1 hG HT H fin=>?_;refine vX lK jN 0 H (wg H rfl rfl (aI c0)) rfl rfl rfl (by simp) rfl ?_;exact jk
   clear H;intro a w G rV H hv;have H:=H.aM (hv 15 26 rfl rfl) rfl;clear hv;refine aD ⟨rfl,?_⟩;refine K7 _ _ ?_;clear K7;refine jS H rfl ?_ ?_
   ·intro jC
    try have p26:=dT jC
    have hmr:m - 1 < (r.takeWhile p).length:=by
     refine (Zf (p:=p) r (m - 1) (by omega) (by omega)).1 ?_;have h1:=hkm (by omega)
     have h2:(y :: r)[m]=r[m - 1]:=by
      obtain ⟨q,rfl⟩:∃ q,m=q+1:=⟨m - 1,by omega⟩
      rfl
     rw [hp];rw [h2] at h1;exact nT (by rw [h1];exact p26)
    refine kP H (Kc K6 (SB (SC (Rm rfl (Rd rfl (Ra rfl ?_))))));clear H K6;intro a H;refine aD ?_;refine dG ((m+1,_)) (by exact H.sub ⟨rfl,rfl,rfl,aB⟩) ?_
    (try dsimp only);exact ⟨by omega,by omega,fun b o h=>rV b o (hg3 b o h)⟩
   intro jC
   try have p26:=dF jC
   refine dP ?_;refine K5 _ _ ?_;clear K5;refine bD (fun _ K8=>?_);refine bD (fun _ K9=>?_)
   have hmr:m=1+(r.takeWhile p).length:=by
    exact acn
   have htk:(y :: r).take m=y :: r.takeWhile p:=by rw [hmr,Nat.add_comm,List.take_succ_cons,ajU]
   have hdr:(y :: r).drop m=r.dropWhile p:=by rw [hmr,Nat.add_comm,xB,ajT]
   rw [<- htk,<- hdr] at fI;refine dI hmx [[],[],[1],[1,2],[1,2,3],[],[],[5,6],ra 0 8,ra 0 9] [8,9] (by kernel_rfl) [_,_,(aJ b (o+0*4)),_,_,_,_,.slice (some ⟨b,o,none⟩) m d] H (ay (Z0 rfl (Rm rfl)) (Z0 rfl (Rm rfl)) ?_ (Z1 2 31 rfl (Rf yK rfl)) (ay (X1 3 32 rfl fun hG=>Rg aC rfl (aF hG (aF rV (aF hg3 (hr0 1 _ rfl))))) (Z0 rfl (Rm rfl)) (Z0 rfl (Rm rfl)) ?_ (bF (bR rfl) (bF (bR rfl) cK)))) ?_
   ·exact abV
   ·exact abQ
   clear H;intro a w G lF H hv;have H:=H.aM (hv 0 29 rfl rfl) rfl;have H:=H.aM (hv 4 33 rfl rfl) rfl;have H:=H.aM (hv 7 36 rfl rfl) rfl;clear hv;refine xY (Li:=[]) (L:=Lt) H wn rfl rfl (hcb j1 _ _ _ _ ⟨_,fI.head,_,rfl,by rw [List.map_take];exact ((qU.hd m (by simp;omega)).mono fun b o h=>lF b o (rV b o (hg3 b o h)))⟩ (fun b o h=>lF b o (rV b o (hg3 b o (hgm b o h)))) (qy _ _ _ _ (fun b o h=>lF b o (rV b o (hg3 b o h))) fI.now) (Hp.owns (Li:=[]) H.hp)) rfl ?_;clear H;rintro v37 Tp OT a w ⟨b37,rfl,hb1,hb2⟩ Xf H;refine kH H (Rn rfl ?_);clear H;intro a H;refine aD ⟨rfl,?_⟩;refine K9 _ _ ?_;clear K9;refine jS H rfl ?_ ?_
   ·exact abx
   intro pU
   try have p38:=dF pU
   refine kP H (Kc K8 (SC (Rm rfl (Rm rfl ?_))));clear H K8;intro a H;refine CY lK jN m H wn rfl rfl rfl (by omega) rfl ?_;clear H;intro a H;refine kH H (Ra rfl ?_);clear H;intro a H;refine aD ?_;refine X5 ((f,(y :: r).drop m,_,d - m,j1+1,OT,Tp)) (by exact (show St _ _ _ _ _ _ _ ((3,.slice _ ((y :: r).drop m).length (d - m)) :: _) _ _ from by rw [List.length_drop];exact H).sub ⟨rfl,rfl,aB⟩) ?_ ?_
   ·exact aco
   show ((y :: r).drop m).length < (y :: r).length;rw [List.length_drop];omega
  skip;refine dI hmx [[],[],[1],[0,1,2],ra 0 4,ra 0 5,ra 0 5,ra 0 7,ra 0 8,ra 0 9,ra 0 5,[0,1,2,3,4,10],[0,1,2,3,4,10,11],[0,1,2,3,4,10,11,12],ra 0 14,ra 0 15] [] (by kernel_rfl) [_,_,_,_,_,undef,undef,undef,undef,undef,undef,undef,undef,undef,undef,_] H (ay (Z0 rfl (Rm rfl)) (Z0 rfl (Rm rfl)) (Z1 1 12 rfl (Rl lK rfl)) (Z2 0 11 2 13 rfl (Rc rfl)) (ay (Z1 3 14 rfl (Rm rfl)) (aU 4 (aT c0) rfl rfl) (aU 4 (aT c0) rfl rfl) (aU 4 (aT c0) rfl rfl) (ay (aU 4 (aT c0) rfl rfl) (aU 4 (aT c0) rfl rfl) (aU 4 (aT c0) rfl rfl) (aU 4 (aT c0) rfl rfl) (ay (aU 4 (aT c0) rfl rfl) (aU 4 (aT c0) rfl rfl) (aU 4 (aT c0) rfl rfl) (Z2 4 15 14 25 rfl (Pf (aT c0) rfl)) cK)))) ?_
  clear H;intro a w G rV H hv;have H:=H.aM (hv 15 26 rfl rfl) rfl;clear hv;refine aD ⟨rfl,?_⟩;refine K7 _ _ ?_;clear K7;refine pO H rfl rfl ?_;refine dP ?_;refine K5 _ _ ?_;clear K5;refine bD (fun _ aW=>?_);refine bD (fun _ bM=>?_)
  have hmr:m=1+(r.takeWhile p).length:=by
   exact acn
  have htk:(y :: r).take m=y :: r.takeWhile p:=by rw [hmr,Nat.add_comm,List.take_succ_cons,ajU]
  have hdr:(y :: r).drop m=r.dropWhile p:=by rw [hmr,Nat.add_comm,xB,ajT]
  rw [<- htk,<- hdr] at fI;refine dI hmx [[],[],[1],[1,2],[1,2,3],[],[],[5,6],ra 0 8,ra 0 9] [8,9] (by kernel_rfl) [_,_,(aJ b (o+0*4)),_,_,_,_,.slice (some ⟨b,o,none⟩) m d] H (ay (Z0 rfl (Rm rfl)) (Z0 rfl (Rm rfl)) ?_ (Z1 2 31 rfl (Rf yK rfl)) (ay (X1 3 32 rfl fun hG=>Rg aC rfl (aF hG (aF rV (aF hg3 (hr0 1 _ rfl))))) (Z0 rfl (Rm rfl)) (Z0 rfl (Rm rfl)) ?_ (bF (bR rfl) (bF (bR rfl) cK)))) ?_
  ·exact abV
  ·exact abQ
  clear H;intro a w G lF H hv;have H:=H.aM (hv 0 29 rfl rfl) rfl;have H:=H.aM (hv 4 33 rfl rfl) rfl;have H:=H.aM (hv 7 36 rfl rfl) rfl;clear hv;refine xY (Li:=[]) (L:=Lt) H wn rfl rfl (hcb j1 _ _ _ _ ⟨_,fI.head,_,rfl,by rw [List.map_take];exact ((qU.hd m (by simp;omega)).mono fun b o h=>lF b o (rV b o (hg3 b o h)))⟩ (fun b o h=>lF b o (rV b o (hg3 b o (hgm b o h)))) (qy _ _ _ _ (fun b o h=>lF b o (rV b o (hg3 b o h))) fI.now) (Hp.owns (Li:=[]) H.hp)) rfl ?_;clear H;rintro v37 Tp OT a w ⟨b37,rfl,hb1,hb2⟩ Xf H;refine kH H (Rn rfl ?_);clear H;intro a H;refine aD ⟨rfl,?_⟩;refine bM _ _ ?_;clear bM;refine jS H rfl ?_ ?_
  ·exact abx
  intro pU
  try have p38:=dF pU
  refine kP H (Kc aW (SC (Rm rfl (Rm rfl ?_))));clear H aW;intro a H;refine CY lK jN m H wn rfl rfl rfl (by omega) rfl ?_;clear H;intro a H;refine kH H (Ra rfl ?_);clear H;intro a H;refine aD ?_;refine X5 ((f,(y :: r).drop m,_,d - m,j1+1,OT,Tp)) (by exact (show St _ _ _ _ _ _ _ ((3,.slice _ ((y :: r).drop m).length (d - m)) :: _) _ _ from by rw [List.length_drop];exact H).sub ⟨rfl,rfl,aB⟩) ?_ ?_
  ·exact aco
  show ((y :: r).drop m).length < (y :: r).length;rw [List.length_drop];omega
 intro h10 a H
 try have nN:=dF h10
 refine dP ?_;refine (leave0 H results212 ?_).2
 exact aaV
theorem awr (G:GH) (w0:World) (hG:Hold G w0) (h:dJ) (p d l:ah) (hh:jy G h p d l) (hz:h.marks.layers.length<=4294967290) :
  Calls prog 160 #[rX h p d l] w0 (bK w0 G fun u G'=>∃ bd,u=.func (.func 212) #[] #[(aJ bd 0)]∧Iter prog G' u ((rE h.marks.layers.length h.marks.layers).map gP)):=by
 obtain ⟨pA,pn,pc,rfl⟩:=hh.props.form;obtain ⟨dA,dn,dc,rfl⟩:=hh.bE.form;obtain ⟨lA,ln,lc,rfl⟩:=hh.layers.form;refine eN [(0,_)] func160 rfl ntmps160 rfl rfl hG ?_;intro a H;refine cO (fun _ K1=>?_);refine dW (cs:=[_,_,_,_,_]) H wn rfl rfl rfl ?_;clear H;intro b1 a w hb1 H;refine kH H (aj K1 rfl (SR fun _ K2=>?_));clear H K1;intro a H;refine rM H wn rfl rfl ?_;clear H;intro a H;refine kH H (aj K2 rfl ?_);clear H K2;intro a H;refine eO ?_;obtain ⟨G2,hm2,hb1,H⟩:=H.fB;refine lv H results160 rfl ?_;exact H.rt ⟨b1,rfl,arT (v:=.slice lA ln lc) (by unfold aH;rw [hb1];rfl) (hh.layers.mono hm2) hz⟩
theorem pR {G:GH} {b:Nat} {cs:List ah} {e:TypeId} {q:Nat × Nat} (h:G b=some (.cells cs.toArray e q)) (k:Nat) (ds:List ah) (hd:ds=(cs.drop k).take ds.length) (j:Nat) (v:ah) (hj:ds[j]?=some v):aH G b (k+j)=some v:=by
 unfold aH
 rw [h]
 show cs.toArray[k+j]?=some v
 rw [hd,uH] at hj
 split at hj
 ·simpa using hj
 cases hj
theorem ajX:Ty prog 232 1 8 [.nilFunc] false:=⟨by kernel_rfl,by kernel_rfl⟩
theorem aeB:aQ 157:=aR func157 rfl
theorem Lj:prog.underlying 240=some (.slice 242):=by kernel_rfl
theorem KY:qK prog 29 [(0,1),(1,4)] [.slice none 0 0,.int .i64 0,.int .i64 0,.slice none 0 0,.slice none 0 0]:=⟨by kernel_rfl,by kernel_rfl⟩
theorem Y2:qK prog 27 [(0,1),(1,1),(2,1),(3,1)] [.int .i64 0,.int .i64 0,.slice none 0 0,.slice none 0 0]:=⟨by kernel_rfl,by kernel_rfl⟩
theorem aoV:aQ 160:=aR func160 rfl
theorem aoW:aQ 161:=aR func161 rfl
theorem aoX:aQ 162:=aR func162 rfl
theorem aoY:aQ 163:=aR func163 rfl
theorem aoZ:aQ 164:=aR func164 rfl
theorem aoR:aQ 155:=aR func155 rfl
theorem aoS:aQ 156:=aR func156 rfl
theorem aoT:aQ 158:=aR func158 rfl
def Dl (vv:ah) (G:GH) (acc rej:Int->Bool):Prop:=∀ (G1:GH) (w1:World),(∀ b o,G b=some o->G1 b=some o)->Hold G1 w1->∀ r:Int,tL prog vv [vi r] w1 (bK w1 G1 fun u G'=>u=.tuple #[.bool (acc r),.bool (rej r)])
def Ak (fv:ah) (G:GH) (f:Int->Bool):Prop:=∀ (G1:GH) (w1:World),(∀ b o,G b=some o->G1 b=some o)->Hold G1 w1->∀ r:Int,tL prog fv [vi r] w1 (bK w1 G1 fun u G'=>u=.bool (f r))
theorem Dl.mono {vv:ah} {G G':GH} {acc rej:Int->Bool} (hm:∀ b o,G b=some o->G' b=some o) (h:Dl vv G acc rej):Dl vv G' acc rej:=fun G1 w1 h1=>h G1 w1 fun b o hb=>h1 b o (hm b o hb)
theorem Ak.mono {vv:ah} {G G':GH} {f:Int->Bool} (hm:∀ b o,G b=some o->G' b=some o) (h:Ak vv G f):Ak vv G' f:=fun G1 w1 h1=>h G1 w1 fun b o hb=>h1 b o (hm b o hb)
abbrev OX (b:Nat):ah:=.func (.func 155) #[] #[(aJ b 0)]
abbrev RX (b:Nat):ah:=.func (.func 156) #[] #[(aJ b 0)]
theorem alp {G:GH} {b:Nat} {vv:ah} {acc rej:Int->Bool} (hb:aH G b 0=some vv) (hv:Dl vv G acc rej):Ak (OX b) G acc:=by
 intro G1 w0 hm hG r;refine jJ (caps:=[(aJ b 0)]) aoR ?_;replace hb:=aF hm hb;refine eN [(0,_),(1,_)] func155 rfl ntmps155 rfl rfl hG ?_;intro a H;refine kP H (SR fun _ K1=>aj K1 rfl (SR fun _ K2=>Rg ajX rfl hb (Rm rfl ?_)));clear H K1;intro a H;refine kX H wn rfl rfl (hv _ _ hm H.ro r) rfl ?_;clear H;rintro v9 G9 a w rfl yS H;refine kH H (Rm rfl ?_);clear H;intro a H;(iterate 2 refine mg H wn rfl rfl rfl ?_;clear H;intro a H);exact kH H (Ra rfl (aj K2 rfl (SR fun _ K3=>Rm rfl (aj K3 rfl (LR results155 rfl fun H=>H.rt rfl)))))
theorem ayi {G:GH} {b:Nat} {vv:ah} {acc rej:Int->Bool} (hb:aH G b 0=some vv) (hv:Dl vv G acc rej):Ak (RX b) G rej:=by
 intro G1 w0 hm hG r;refine jJ (caps:=[(aJ b 0)]) aoS ?_;replace hb:=aF hm hb;refine eN [(0,_),(1,_)] func156 rfl ntmps156 rfl rfl hG ?_;intro a H;refine kP H (SR fun _ K1=>aj K1 rfl (SR fun _ K2=>Rg ajX rfl hb (Rm rfl ?_)));clear H K1;intro a H;refine kX H wn rfl rfl (hv _ _ hm H.ro r) rfl ?_;clear H;rintro v9 G9 a w rfl yS H;refine kH H (Rm rfl ?_);clear H;intro a H;(iterate 2 refine mg H wn rfl rfl rfl ?_;clear H;intro a H);exact kH H (Ra rfl (aj K2 rfl (SR fun _ K3=>Rm rfl (aj K3 rfl (LR results156 rfl fun H=>H.rt rfl)))))
theorem aeg {G:GH} {b:Nat} {fv:ah} {acc:Int->Bool} (hb:aH G b 0=some fv) (hv:Ak fv G acc) (x:gF):uG (.func (.func 158) #[] #[(aJ b 0)]) G x.dat (acc x.rev):=by
 intro G1 w0 cs hm hG hr;obtain rfl:=MI hr;refine jJ (caps:=[(aJ b 0)]) aoT ?_;replace hb:=aF hm hb;refine eN [(0,_),(1,_)] func158 rfl ntmps158 rfl rfl hG ?_;intro a H;refine cO (fun _ K1=>?_);refine dW (cs:=[_,_]) H wn rfl rfl rfl ?_;clear H;intro b2 a w hb2 H;refine kH H (aj K1 rfl (SR fun _ K2=>Rg BA rfl hb (bq EJ aC 0 rfl rfl ?_)));clear H K1;intro a H;refine kX H wn rfl rfl (hv _ _ hm H.ro x.rev) rfl ?_;clear H;rintro v7 G7 a w rfl vQ H;exact kH H (aj K2 rfl (LR results158 rfl fun H=>H.rt rfl))
theorem axC (G:GH) (w0:World) (hG:Hold G w0) (l:List aL) (v:ah) (hv:au G (.sl 2 (l.map aL.dat)) v) (hz:l.length<=4294967296) :
  Calls prog 159 #[v] w0 (bK w0 G fun u G'=>au G' (.sl 2 (l.map aL.dat)) u):=by
 obtain ⟨A,n,c,rfl⟩:=hv.form;refine eN [(0,_)] func159 rfl ntmps159 rfl rfl hG ?_;intro a H;refine kP H (SR fun _ K1=>aj K1 rfl (SR fun _ K2=>Rm rfl ?_));clear H K1;intro a H;refine s_call PX H wn rfl (Va _ _ H.ro _ _ _ _ hv (by simpa using hz)) rfl ?_;clear H;rintro v4 G4 a w Xo Bb H;exact kH H (aj K2 rfl (LR results159 rfl fun H=>H.rt Xo))
abbrev N8 (s:Int × Bool):List Dat:=[li s.1,.lf (.bool s.2)]
theorem ajM (G:GH) (s:Int × Bool):aY G (N8 s) [vi s.1,.bool s.2]:=by simp [aY,au,Value.oneCell']
theorem ajP {G:GH} {l:List (Int × Bool)} {A:Option Addr} {n c k:Nat} (hv:au G (.sl 2 (l.map N8)) (.slice A n c)) (hk:k < l.length):∃ b o,A=some ⟨b,o,none⟩∧∀ j u,[vi l[k].1,.bool l[k].2][j]?=some u->aH G b (o+k*2+j)=some u:=by
 obtain ⟨b,o,cs,h1,h2,h3,h4⟩:=hv.at_ k (N8 l[k]) (by simp [hk])
 simp only [aY,au] at h4
 obtain ⟨_,_,rfl,⟨rfl,-⟩,_,_,rfl,⟨rfl,-⟩,rfl⟩:=h4;exact Gp
theorem avS (G:GH) (y:bS):aY G y.dat y.cells:=by simp [bS.dat,bS.cells,aY,au,Value.oneCell']
theorem aef (G:GH) (y:gF):aY G y.dat y.cells:=by simp [gF.dat,gF.cells,aY,au,Value.oneCell']
theorem aAx (props:List aL) (key:Int) (l:List bS):(qg props key l).length=l.length+1:=by simp [qg]
theorem afu {l:List gF} {p:gF->Bool}:(l.findIdx? p).isSome=true↔∃ x∈l,p x=true:=by rw [List.findIdx?_isSome,List.any_eq_true]
theorem arS {L:List (Int × List bS)} {l:List bS} (h:L.flatMap Prod.snd=l) (hn:∀ q∈L,q.2≠[]) (k:Nat) (hk:k<=L.length):k<=((L.take k).flatMap Prod.snd).length∧((L.take k).flatMap Prod.snd).length<=l.length:=by
 constructor
 ·induction k with
  | zero=>exact kE _
  | succ k ih =>
   have:=ih (by omega);rw [kg (by omega),List.flatMap_append,iw];have h2:=List.length_pos_iff.2 (hn L[k] (jB (by omega)))
   simp only [List.flatMap_cons,List.flatMap_nil,ig]
   omega
 have e:l=(L.take k).flatMap Prod.snd++(L.drop k).flatMap Prod.snd:=by rw [<- List.flatMap_append,List.take_append_drop,h]
 rw [e,iw];omega
def sH (acc rej:Int->Bool) (h:dJ) (u:ah) (G:GH):Prop:=if lS acc rej h then aal false BL u G else aal true (iE acc rej h) u G
theorem alW {p:Prop} (h:p:=by
 first
  | exact H.rt (by rw [sH,aG (by first|exact .inl ⟨by assumption,by assumption⟩|exact .inr (afu.1 (by assumption)))];exact ⟨_,_,_,rfl,akT _⟩)
  | (obtain ⟨Gr2,agL,Ih,H⟩:=St.qp (Li:=[_,_]) H hrw (rows:=ly.map bS.dat) (by simp) fG
     exact H.rt (by rw [sH,av H9,hdh];exact ⟨_,_,_,rfl,⟨hpv.mono agL,(hdr.mono uh).mono agL,Ih⟩⟩))):p:=h
theorem aaW {p:Prop} (h:p:=by
 exact ⟨fun hg=>hg.elim (fun g=>by simp_all) (fun g=>by have g4:=afu.2 g;simp_all),by first|assumption|exact fun b o h=>Nc b o (Nb b o h)⟩):p:=h
theorem alX {p:Prop} (h:p:=by
 exact Dx HT Hb hG hv (Xr aK) H rfl):p:=h
theorem Jz {p:Prop} (h:p:=by
 exact ⟨by omega,cu.nil,bZ.nil,fun _ _ h=>h⟩):p:=h
theorem alY {p:Prop} (h:p:=by
 exact Dx HT Hb hG hv (aha aK) H rfl):p:=h
theorem Pk {p:Prop} (h:p:=by
 refine (jU H results96 (.cons (ny fH (cs:=[_,_,_,_,_]) H rfl rfl (H.hp.dx 0 rfl rfl)) (.cons (fu H rfl) .nil)) ?_).1
 exact alW):p:=h
theorem GJ {p:Prop} (h:p:=by
 clear H;intro a H;refine aD ⟨rfl,?_⟩;exact alY):p:=h
theorem GK {p:Prop} (h:p:=by
 clear H;intro a H;refine aD ⟨rfl,?_⟩;exact alX):p:=h
theorem GL {p:Prop} (h:p:=by
 intro _ _ _ _ _ _ _ hB;exact gL):p:=h
theorem abN {p:Prop} (h:p:=by
 intro aK dM bH a w G1 fF _ _ aO hc hG HT hv;have H:=HT;clear aO;have Hb:=H.full;have H:=Hb;clear hc;refine kH H (Rm rfl ?_);exact GJ):p:=h
theorem Mf {p:Prop} (h:p:=by
 intro _ _ _ _ _ _ _ hB;exact gL):p:=h
set_option maxHeartbeats 8000000 in
theorem Yb (G:GH) (w0:World) (hG:Hold G w0) (acc rej:Int->Bool) (vv:ah) (hvv:Dl vv G acc rej) (hcv:vv.cells=#[vv]) (h:dJ) (p d l:ah) (hh:jy G h p d l) (hz:mK h<=1073741824) :
    Calls prog 96 #[rX h p d l,vv] w0 (bK w0 G (sH acc rej h)):=by
  have hml:maxLen=9223372036854775807:=rfl;have hzh:=FM h;have hz1:=pq (h.props.map aL.dat);have hz2:=pq (h.marks.bE.map gF.dat);have hz3:=pq (h.marks.layers.map bS.dat)
  simp only [bQ] at hz1 hz2 hz3
  obtain ⟨pA,pn,pc,rfl⟩:=hh.props.form;obtain ⟨dA,dn,dc,rfl⟩:=hh.bE.form;obtain ⟨lA,ln,lc,rfl⟩:=hh.layers.form;have hdn:=hh.bE.len;rw [bQ] at hdn;subst hdn;refine eN [(0,_),(1,_)] func96 rfl ntmps96 rfl rfl hG ?_;intro a H;refine cO (fun _ K1=>?_);refine dW (cs:=[_,_,_,_,_]) H wn rfl rfl rfl ?_;clear H;intro b2 a w hb2 H;refine dW (cs:=[vv]) H wn rfl hcv rfl ?_;clear H;intro b3 a w hb3 H;refine dO fH H wn rfl ?_;clear H;intro b4 a w hb4 H;refine kH H (aj K1 rfl (SR fun _ K2=>?_));clear H K1;intro a H;refine rM H wn rfl rfl ?_;clear H;intro a H;refine dO BA H wn rfl ?_;clear H;intro b6 a w hb6 H;refine bC BA 0 (vs:=[_]) H wn rfl ?_;clear H;intro w H;refine K2 _ _ ?_;clear K2;refine cO (fun _ K3=>?_);refine rM H wn rfl rfl ?_;clear H;intro a H;refine dO BA H wn rfl ?_;clear H;intro b7 a w AZ H;refine bC BA 0 (vs:=[_]) H wn rfl ?_;clear H;intro w H;refine K3 _ _ ?_;clear K3;refine kP H (SR fun _ K4=>Rf qo rfl ?_);clear H;intro a H;refine bP Ep (cs:=[_,_,_,_]) H wn rfl rfl (H.hp.dx 4 rfl rfl) rfl ?_;clear H;intro a H;refine dO Ep H wn rfl ?_;clear H;intro b8 a w HV H;refine bC Ep 0 (vs:=[_,_,_,_]) H wn rfl ?_;clear H;intro w H;have H:=H.eD (Pl:=[_,_,_,_,_,_]) (dN:=[_,_,_,_,_,_]) [5,4,2,1,0,3] (by decide) rfl;obtain ⟨Ga,hma,hb2',H⟩:=H.fB;obtain ⟨Gb,hmb,yR,H⟩:=H.fB;obtain ⟨Gc,hmc,Qq,H⟩:=H.fB;obtain ⟨Gd,hmd,WO,H⟩:=H.fB;obtain ⟨Ge,hme,atc,H⟩:=H.fB;have E5:∀ b o,G b=some o->Ge b=some o:=fun b o h=>hme b o (hmd b o (hmc b o (hmb b o (hma b o h))));have q2:∀ j v,[.slice pA pn pc,vi h.marks.ins,vi h.marks.move,.slice dA h.marks.bE.length dc,.slice lA ln lc][j]?=some v->aH Ge b2 (0+j)=some v:=fun j v hj=>aF (fun b o h=>hme b o (hmd b o (hmc b o (hmb b o h)))) (pR hb2' 0 _ rfl j v hj);have q8:∀ j v,[vi h.marks.ins,vi h.marks.move,.slice dA h.marks.bE.length dc,.slice lA ln lc][j]?=some v->aH Ge b8 (0+j)=some v:=fun j v hj=>pR atc 0 _ rfl j v hj;have hvb:aH Gb b3 0=some vv:=pR yR 0 [vv] rfl 0 _ rfl;have xP:Ak (OX b3) Ge acc:=(alp hvb (hvv.mono fun b o h=>hmb b o (hma b o h))).mono fun b o h=>hme b o (hmd b o (hmc b o h));have yQ:Ak (RX b3) Ge rej:=(ayi hvb (hvv.mono fun b o h=>hmb b o (hma b o h))).mono fun b o h=>hme b o (hmd b o (hmc b o h));have q6:aH Ge b6 0=some (OX b3):=aF (fun b o h=>hme b o (hmd b o h)) (pR Qq 0 [OX b3] rfl 0 _ rfl);have q7:aH Ge b7 0=some (RX b3):=aF hme (pR WO 0 [RX b3] rfl 0 _ rfl);replace hh:=hh.mono E5;refine K4 _ _ ?_;clear K4;refine tT (ι:=GH) (Tc:=[(2,_),(4,_),(6,_),(7,_),(8,_)]) (Lc:=[(_,_)]) (fun gh=>[]) (fun gh=>[]) (fun gh=>gh) (fun gh=>¬ lS acc rej h∧(∀ b o,Ge b=some o->gh b=some o)) (by exact H.sub ⟨rfl,rfl,rfl,rfl,rfl,aB⟩) ?_ ?_
  · skip;refine kP H (SR fun _ K5=>Rf sP rfl (Rg aC rfl (q8 0 _ rfl) (Rc rfl (Rm rfl (Sp 29 rfl ?_ ?_))))) <;> clear H
    · intro gW a H
      try have p29:=dT gW
      refine kH H (YR BA gW rfl q7 (YF sP gW rfl (YR aC gW rfl (q8 0 _ rfl) ?_)));clear H;intro a H;refine kX H (wg H rfl rfl gW) rfl rfl (yQ _ _ (fun _ _ h=>h) H.ro h.marks.ins) rfl ?_;clear H;rintro v33 ZT a w rfl Nb H;refine kH H (Pt gW rfl (Rm rfl (Sp 35 rfl ?_ ?_))) <;> clear H
      · intro gX a H
        try have p35:=dT gX
        refine kH H (aP gX rfl (aP gX rfl (Pt gX rfl (Kz K5 (Ct rfl rfl (SR fun _ K6=>?_))))));clear H K5;intro a H;refine jD KY [_,_,_,_,_] H wn rfl rfl rfl rfl ?_;clear H;intro a H;refine bC fH 0 (vs:=[_,_,_,_,_]) H wn rfl ?_;clear H;intro w H;refine kH H (aj K6 rfl ?_);clear H K6;intro a H;refine eO ?_;exact Pk
      intro gX a H
      try have p35:=dF gX
      refine kH H (YF tY gX rfl (YR uw gX rfl (aF (by first|assumption|exact fun _ _ h=>h) (q8 2 _ rfl)) ?_));clear H;intro a H;refine rM H (wg H rfl rfl gX) rfl rfl ?_;clear H;intro a H;refine s_call aeB H (wg H rfl rfl gX) rfl (adP _ _ H.ro h.marks.bE (fun x=>acc x.rev) _ _ (hh.bE.mono (by first|assumption|exact fun _ _ h=>h)) (fun x _=>aeg (aF (by first|assumption|exact fun _ _ h=>h) q6) (xP.mono (by first|assumption|exact fun _ _ h=>h)) x)) rfl ?_;clear H;rintro v39 OC a w rfl Nc H;refine kH H (Pf gX rfl (Kz K5 (Cd rfl ?_ ?_))) <;> clear H K5
      · intro lD a H
        try have p40:=dT lD
        refine cO (fun _ K7=>?_);refine jD KY [_,_,_,_,_] H wn rfl rfl rfl rfl ?_;clear H;intro a H;refine bC fH 0 (vs:=[_,_,_,_,_]) H wn rfl ?_;clear H;intro w H;refine kH H (aj K7 rfl ?_);clear H K7;intro a H;refine eO ?_;exact Pk
      intro lD a H
      try have p40:=dF lD
      refine iB ?_;refine ⟨_,by exact H.sub ⟨rfl,rfl,rfl,rfl,rfl,aB⟩,?_⟩;exact aaW
    intro gW a H
    try have p29:=dF gW
    refine kH H (aP gW rfl (aP gW rfl (Pf gW rfl (Rm rfl ?_))));clear H;intro a H;refine IK tY H (wg H rfl rfl rfl) rfl rfl ?_;clear H;intro a H;refine qE uw H (wg H rfl rfl rfl) rfl (H.hp.aH (aF (by first|assumption|exact fun _ _ h=>h) (q8 2 _ rfl))) rfl ?_;clear H;intro a H;refine rM H (wg H rfl rfl rfl) rfl rfl ?_;clear H;intro a H;refine s_call aeB H (wg H rfl rfl rfl) rfl (adP _ _ H.ro h.marks.bE (fun x=>acc x.rev) _ _ (hh.bE.mono (by first|assumption|exact fun _ _ h=>h)) (fun x _=>aeg (aF (by first|assumption|exact fun _ _ h=>h) q6) (xP.mono (by first|assumption|exact fun _ _ h=>h)) x)) rfl ?_;clear H;rintro v39 OC a w rfl Nc H;refine kH H (Pf rfl rfl (Kz K5 (Cd rfl ?_ ?_))) <;> clear H K5
    · intro lD a H
      try have p40:=dT lD
      refine cO (fun _ K8=>?_);refine jD KY [_,_,_,_,_] H wn rfl rfl rfl rfl ?_;clear H;intro a H;refine bC fH 0 (vs:=[_,_,_,_,_]) H wn rfl ?_;clear H;intro w H;refine kH H (aj K8 rfl ?_);clear H K8;intro a H;refine eO ?_;exact Pk
    intro lD a H
    try have p40:=dF lD
    refine iB ?_;refine ⟨_,by exact H.sub ⟨rfl,rfl,rfl,rfl,rfl,aB⟩,?_⟩;exact aaW
  clear H;intro gj a w hI H;obtain ⟨H9,hgj⟩:=hI;replace q2:=fun j v hj=>aF hgj (q2 j v hj);replace q8:=fun j v hj=>aF hgj (q8 j v hj);replace q6:=aF hgj q6;replace q7:=aF hgj q7;replace xP:=xP.mono hgj;replace yQ:=yQ.mono hgj;replace hh:=hh.mono hgj;dsimp only [lca,bJ] at H;refine bD (fun _ K9=>?_)
  have Xr:∀ (aK bT:Nat) (v:ah) (G G':GH),(∀ k o,G k=some o->G' k=some o)->(fun (aK bT:Nat) (v:ah) (G:GH)=>match bT with|0=>v=(aJ b2 0)|1=>v=.slice pA pn pc|2=>au G (.sl 2 (h.props.map aL.dat)) v|3=>v=(aJ b8 0)|4=>v=vi h.marks.ins|5=>v=(aJ b8 1)|6=>v=vi h.marks.move|7=>v=.agg #[vi h.marks.ins,vi h.marks.move,.slice none 0 0,.slice none 0 0]|8=>∃ A n c,v=.agg #[.slice A n c,vi h.marks.ins,vi h.marks.move,.slice none 0 0,.slice none 0 0]∧au G (.sl 2 (h.props.map aL.dat)) (.slice A n c)|9=>v=(aJ aK 0)|_=>True) aK bT v G->(fun (aK bT:Nat) (v:ah) (G:GH)=>match bT with|0=>v=(aJ b2 0)|1=>v=.slice pA pn pc|2=>au G (.sl 2 (h.props.map aL.dat)) v|3=>v=(aJ b8 0)|4=>v=vi h.marks.ins|5=>v=(aJ b8 1)|6=>v=vi h.marks.move|7=>v=.agg #[vi h.marks.ins,vi h.marks.move,.slice none 0 0,.slice none 0 0]|8=>∃ A n c,v=.agg #[.slice A n c,vi h.marks.ins,vi h.marks.move,.slice none 0 0,.slice none 0 0]∧au G (.sl 2 (h.props.map aL.dat)) (.slice A n c)|9=>v=(aJ aK 0)|_=>True) aK bT v G':=by
    intro aK bT v G G' hm h
    match bT,h with
    | 0,h=>exact h
    | 1,h=>exact h
    | 2,h=>exact au.mono hm h
    | 3,h=>exact h
    | 4,h=>exact h
    | 5,h=>exact h
    | 6,h=>exact h
    | 7,h=>exact h
    | 8,h=>exact let ⟨A,n,c,h1,h2⟩:=h;⟨A,n,c,h1,h2.mono hm⟩
    | 9,h=>exact h
    | 10,h=>exact trivial
    | _+11,h=>exact trivial
  refine amo (hmx) [[],[0],[0,1],[],[3],[],[5],ra 3 4,ra 0 8,[],ra 0 10] [10] (by kernel_rfl) (by kernel_rfl) 9 (by decide) (.cells #[.slice none 0 0,vi 0,vi 0,.slice none 0 0,.slice none 0 0] 29 (0,0)) (fun (aK bT:Nat) (v:ah) (G:GH)=>match bT with|0=>v=(aJ b2 0)|1=>v=.slice pA pn pc|2=>au G (.sl 2 (h.props.map aL.dat)) v|3=>v=(aJ b8 0)|4=>v=vi h.marks.ins|5=>v=(aJ b8 1)|6=>v=vi h.marks.move|7=>v=.agg #[vi h.marks.ins,vi h.marks.move,.slice none 0 0,.slice none 0 0]|8=>∃ A n c,v=.agg #[.slice A n c,vi h.marks.ins,vi h.marks.move,.slice none 0 0,.slice none 0 0]∧au G (.sl 2 (h.props.map aL.dat)) (.slice A n c)|9=>v=(aJ aK 0)|_=>True) (fun _ _ i v G hi h=>by
    (iterate 11 (rcases i with _|i;(first|exact h|exact absurd rfl hi)));exact trivial) H ?_ ?_ ?_ (by kernel_rfl)
  · clear H;refine ay ?_ ?_ ?_ ?_ (ay ?_ ?_ ?_ ?_ (bF ?_ (bF ?_ (bF ?_ cK))))
    · intro aK dM bH a w G1 _ _ aO hc hG HT hv;have H:=HT;clear aO;have Hb:=H.full;have H:=Hb;clear hc;refine kH H (Rf yL rfl ?_);exact GK
    · intro aK dM bH a w G1 _ _ aO hc hG HT hv;have H:=HT;clear aO;have H:=H.aM (hv 0 42 (hc 0 (by decide)) rfl) rfl;have Hb:=H.full;have H:=Hb;clear hc;refine kH H (Rg vk rfl (aF hG (q2 0 _ rfl)) ?_);exact GK
    · intro aK dM bH a w G1 _ _ aO hc hG HT hv;have H:=HT;clear aO;have H:=H.aM (hv 1 43 (hc 1 (by decide)) rfl) rfl;have Hb:=H.full;have H:=Hb;clear hc;refine s_call Vr H wn rfl (axC _ _ H.ro h.props _ (hh.props.mono hG) (by omega)) rfl ?_;clear H;rintro v44 G44 a w Nn asn H;refine aD ⟨rfl,?_⟩;exact xJ (by kernel_rfl) (Xr aK) rfl rfl HT Hb hG hv asn (Nn) H
    · intro aK dM bH a w G1 _ _ aO hc hG HT hv;have H:=HT;clear aO;have Hb:=H.full;have H:=Hb;clear hc;refine kH H (Rf sP rfl ?_);exact GK
    · intro aK dM bH a w G1 _ _ aO hc hG HT hv;have H:=HT;clear aO;have H:=H.aM (hv 3 45 (hc 3 (by decide)) rfl) rfl;have Hb:=H.full;have H:=Hb;clear hc;refine kH H (Rg aC rfl (aF hG (q8 0 _ rfl)) ?_);exact GK
    · intro aK dM bH a w G1 _ _ aO hc hG HT hv;have H:=HT;clear aO;have Hb:=H.full;have H:=Hb;clear hc;refine kH H (Rf Cn rfl ?_);exact GK
    · intro aK dM bH a w G1 _ _ aO hc hG HT hv;have H:=HT;clear aO;have H:=H.aM (hv 5 47 (hc 5 (by decide)) rfl) rfl;have Hb:=H.full;have H:=Hb;clear hc;refine kH H (Rg aC rfl (aF hG (q8 1 _ rfl)) ?_);exact GK
    · intro aK dM bH a w G1 _ _ aO hc hG HT hv;have H:=HT;clear aO;have H:=H.aM (hv 4 46 (hc 4 (by decide)) rfl) rfl;have H:=H.aM (hv 6 48 (hc 6 (by decide)) rfl) rfl;have Hb:=H.full;have H:=Hb;clear hc;refine jD Y2 [_,_,_,_] H wn rfl rfl rfl rfl ?_;exact GK
    · intro aK dM bH a w G1 _ _ aO hc hG HT hv;have H:=HT;clear aO;obtain ⟨u44,auW,Nn⟩:=hv 2 44 (hc 2 (by decide)) rfl;(try dsimp only at Nn);obtain ⟨A44,n44,c44,rfl⟩:=Nn.form;have H:=H.iI auW;have H:=H.aM (hv 7 49 (hc 7 (by decide)) rfl) rfl;have Hb:=H.full;have H:=Hb;clear hc;refine jD KY [_,_,_,_,_] H wn rfl rfl rfl rfl ?_;clear H;intro a H;refine aD ⟨rfl,?_⟩;exact xJ (by kernel_rfl) (Xr aK) rfl rfl HT Hb hG hv (fun _ _ h=>h) (⟨_,_,_,rfl,Nn⟩) H
    · exact GL
    intro _ _ _ _ _ _ hB;exact gL
  · clear H;intro o_ bH a w G1 qB _ hc hG HT hv;obtain rfl:_=o_:=Option.some.inj qB;clear qB;have H:=HT;have Hb:=H.full;have H:=Hb;clear hc;refine dO fH H wn rfl ?_;clear H;intro b9 a w Cu H;refine aD ⟨rfl,b9,?_⟩;exact Ud
  clear H;intro b9 a w G kV H hv;have H:=H.aM (hv 9 9 rfl rfl) rfl;obtain ⟨u50,auX,agW⟩:=hv 8 50 (by decide) rfl;(try dsimp only at agW);obtain ⟨qA,qn,qc,rfl,Ig⟩:=agW;have H:=H.iI auX;clear hv;refine bC fH 0 (vs:=[_,_,_,_,_]) H wn rfl ?_;clear H;intro w H;replace q2:=fun j v hj=>aF kV (q2 j v hj);replace q8:=fun j v hj=>aF kV (q8 j v hj);replace q6:=aF kV q6;replace q7:=aF kV q7;replace xP:=xP.mono kV;replace yQ:=yQ.mono kV;replace hh:=hh.mono kV;obtain ⟨Gf,hGf⟩:∃ g,g=G:=⟨_,rfl⟩;refine aD ⟨rfl,?_⟩;refine K9 _ _ ?_;clear K9;refine tT (ι:=Int × Int × GH) (Tc:=[(2,_),(4,_),(6,_),(7,_),(8,_),(9,_)]) (Lc:=[(_,_)]) (fun gh=>[]) (fun gh=>[(b9,.cells #[.slice qA qn qc,vi gh.1,vi gh.2.1,.slice none 0 0,.slice none 0 0] 29 (0,0))]) (fun gh=>gh.2.2) (fun gh=>gh.1=(if kW acc h then 0 else h.marks.ins)∧gh.2.1=(if kW acc h then 0 else h.marks.move)∧(∀ b o,G b=some o->gh.2.2 b=some o)) (by exact (H.eD (Pl:=[_,_]) (dN:=[_,_]) [1,0] (by decide) rfl).sub ⟨rfl,rfl,rfl,rfl,rfl,rfl,aB⟩) ?_ ?_
  · skip;refine kP H (SR fun _ aW=>Rf sP rfl (Rg aC rfl (q8 0 _ rfl) (Rc rfl (Rm rfl (Sp 54 rfl ?_ ?_))))) <;> clear H
    · intro iC a H
      try have p54:=dT iC
      refine kH H (YR BA iC rfl q6 (YF sP iC rfl (YR aC iC rfl (q8 0 _ rfl) ?_)));clear H;intro a H;refine kX H (wg H rfl rfl iC) rfl rfl (xP _ _ (fun _ _ h=>h) H.ro h.marks.ins) rfl ?_;clear H;rintro v58 G58 a w rfl aCq H;refine kH H (Pt iC rfl (Kz aW (Cd rfl ?_ ?_))) <;> clear H aW
      · intro iQ a H
        try have p59:=dT iQ
        refine kP H (SC (Rf qo rfl (Rf sP rfl ?_)));clear H;intro a H;refine bC aC 0 (vs:=[_]) H wn rfl ?_;clear H;intro w H;refine kH H (Rf qo rfl (Rf Cn rfl ?_));clear H;intro a H;refine bC aC 0 (vs:=[_]) H wn rfl ?_;clear H;intro w H;refine aD ?_;refine ⟨(_,_,_),by exact (H.eD (Pl:=[_,_]) (dN:=[_,_]) [1,0] (by decide) rfl).sub ⟨rfl,rfl,rfl,rfl,rfl,rfl,aB⟩,?_⟩;(try dsimp only)
        first
        | exact ⟨(aG ⟨by assumption,by assumption⟩).symm,(aG ⟨by assumption,by assumption⟩).symm,by assumption⟩
        | exact ⟨(av (fun hi=>by simp_all [kW])).symm,(av (fun hi=>by simp_all [kW])).symm,by first|assumption|exact fun _ _ h=>h⟩
      intro iQ a H
      try have p59:=dF iQ
      refine iB ?_;refine ⟨(_,_,_),by exact (H.eD (Pl:=[_,_]) (dN:=[_,_]) [1,0] (by decide) rfl).sub ⟨rfl,rfl,rfl,rfl,rfl,rfl,aB⟩,?_⟩;(try dsimp only)
      first
      | exact ⟨(aG ⟨by assumption,by assumption⟩).symm,(aG ⟨by assumption,by assumption⟩).symm,by assumption⟩
      | exact ⟨(av (fun hi=>by simp_all [kW])).symm,(av (fun hi=>by simp_all [kW])).symm,by first|assumption|exact fun _ _ h=>h⟩
    intro iC a H
    try have p54:=dF iC
    refine kH H (aP iC rfl (aP iC rfl (Pf iC rfl (Kz aW (Cf rfl rfl ?_)))));clear H aW;intro a H;refine iB ?_;refine ⟨(_,_,_),by exact (H.eD (Pl:=[_,_]) (dN:=[_,_]) [1,0] (by decide) rfl).sub ⟨rfl,rfl,rfl,rfl,rfl,rfl,aB⟩,?_⟩;(try dsimp only)
    first
    | exact ⟨(aG ⟨by assumption,by assumption⟩).symm,(aG ⟨by assumption,by assumption⟩).symm,by assumption⟩
    | exact ⟨(av (fun hi=>by simp_all [kW])).symm,(av (fun hi=>by simp_all [kW])).symm,by first|assumption|exact fun _ _ h=>h⟩
  clear H;rintro ⟨io,mo,gk⟩ a w hI H;dsimp only at hI H;obtain ⟨hio,hmo,qQ⟩:=hI;replace q2:=fun j v hj=>aF qQ (q2 j v hj);replace q8:=fun j v hj=>aF qQ (q8 j v hj);replace q6:=aF qQ q6;replace q7:=aF qQ q7;replace xP:=xP.mono qQ;replace yQ:=yQ.mono qQ;replace hh:=hh.mono qQ;replace Ig:=Ig.mono qQ;dsimp only [lca,bJ] at H;refine kP H (SQ fun _ bM=>SR fun _ bU=>Rf tY rfl (Rg uw rfl (q8 2 _ rfl) (Rl oz rfl (Rm rfl (Kz bU (SB ?_))))));clear H bU;intro a H;skip;refine eX (ι:=Nat × ah × List ah × OL × GH) (Tc:=[(2,_),(4,_),(6,_),(7,_),(9,_),(65,_),(66,_)]) (Lc:=[(_,_)]) (fun gh=>[(67,vi gh.1)]) (fun gh=>[(b9,.cells #[.slice qA qn qc,vi io,vi mo,gh.2.1,.slice none 0 0] 29 (0,0))]++gh.2.2.2.1) (fun gh=>gh.2.2.2.2) (fun gh=>gh.1<=h.marks.bE.length∧cu 159 2 gh.2.1 ((h.marks.bE.take gh.1).filter fun x=>!rej x.rev).length gh.2.2.1 gh.2.2.2.1∧bZ gh.2.2.2.2 2 (((h.marks.bE.take gh.1).filter fun x=>!rej x.rev).map gF.dat) gh.2.2.1∧(∀ b o,gk b=some o->gh.2.2.2.2 b=some o)) (fun gh=>h.marks.bE.length - gh.1) ((0,.slice none 0 0,[],[],gk)) (by exact (H.NQ (A:=[_,_])).sub ⟨rfl,rfl,rfl,rfl,rfl,rfl,rfl,rfl,aB⟩) ?_ ?_
  · exact Jz
  clear H;rintro ⟨k,v,xs,Ld,g⟩ a w hI H;dsimp only at hI H;obtain ⟨hk,hrw,fG,hgm⟩:=hI;have hfl:=List.length_filter_le (fun x:gF=>!rej x.rev) (h.marks.bE.take k);rw [List.length_take] at hfl;dsimp only [lca,bJ] at H;refine kP H (SR fun _ bY=>Rc rfl (Kz bY (SQ fun _ cZ=>Cd rfl ?_ ?_))) <;> clear H bY
  · intro h68 a H
    try have p68:=dT h68
    have hk2:k < h.marks.bE.length:=by omega
    obtain ⟨bd,od,rfl,hrow⟩:=PV (hh.bE.mono hgm) hk2;refine kP H (Kc cZ (SQ fun _ dQ=>SB (SR fun _ dR=>Ri oz om rfl rfl ?_)));clear H cZ;intro a H;refine bP om (cs:=[_,_]) H wn rfl rfl (fun j v hj=>H.hp.aH (hrow j v hj)) rfl ?_;clear H;intro a H;refine dO om H wn rfl ?_;clear H;intro b11 a w J6 H;refine bC om 0 (vs:=[_,_]) H wn rfl ?_;clear H;intro w H;refine dR _ _ ?_;clear dR;refine kP H (SR fun _ dK=>Rg BA rfl (aF hgm q7) (bq EJ aC 0 rfl rfl ?_));clear H;intro a H;refine kX H wn rfl rfl (yQ _ _ hgm H.ro h.marks.bE[k].rev) rfl ?_;clear H;rintro v74 ZW a w rfl QB H;refine kH H (Rn rfl (Kz dK (Cd rfl ?_ ?_))) <;> clear H dK
    · intro zO a H
      try have p75:=dT zO
      refine kP H (SC (Rf qo rfl (bq tY uw 2 rfl rfl ?_)));clear H;intro a H;refine bP om (cs:=[_,_]) H wn rfl rfl (H.hp.dx 0 rfl rfl) rfl ?_;clear H;intro a H;refine iT oz om [_,_] [_,_] H wn rfl rfl rfl rfl rfl (by intro i q h;match i,h with|0,h=>exact h|n+1,h=>simp at h) rfl rfl ?_;clear H;intro b80 a w aB5 H;refine oh (Li:=[_,_,_,_]) (Lo:=Ld) (news:=h.marks.bE[k].cells) oz om rfl rfl H wn rfl rfl hrw rfl (H.hp.dx 0 rfl rfl) rfl (by omega) (by omega) rfl ?_;clear H;intro v81 ala a w ahk H;obtain ⟨A81,c81,rfl,-,-⟩:=ahk.shape;refine kH H (Rf qo rfl (Rf tY rfl ?_));clear H;intro a H;refine bC uw 3 (vs:=[_]) H wn rfl ?_;clear H;intro w H;refine kH H (Kn dQ (SC (Rd rfl (Rm rfl ?_))));clear H dQ;intro a H;refine aD ?_;refine dG ((k+1,_,xs++h.marks.bE[k].cells,ala,ZW)) (by exact (H.eD (Pl:=[_,_,_,_]) (dN:=[_,_]) [2,3] (by decide) rfl).sub ⟨rfl,rfl,rfl,rfl,rfl,rfl,rfl,rfl,aB⟩) ?_
      (try dsimp only);exact ⟨by omega,by rw [kg hk2,List.filter_append,List.filter_cons_of_pos (by simp_all),List.filter_nil,iw];exact ahk,by rw [kg hk2,List.filter_append,List.filter_cons_of_pos (by simp_all),List.filter_nil,kF];exact (fG.mono QB).snoc (aef _ _) rfl,fun b o h=>QB b o (hgm b o h)⟩
    intro zO a H
    try have p75:=dF zO
    refine kP H (Kc dQ (SC (Rd rfl (Rm rfl ?_))));clear H dQ;intro a H;refine aD ?_;refine dG ((k+1,v,xs,Ld,ZW)) (by exact (H.eD (Pl:=[_,_,_]) (dN:=[_,_]) [1,2] (by decide) rfl).sub ⟨rfl,rfl,rfl,rfl,rfl,rfl,rfl,rfl,aB⟩) ?_
    (try dsimp only);exact ⟨by omega,by rw [kg hk2,List.filter_append,List.filter_cons_of_neg (by simp_all),List.filter_nil,ig];exact hrw,by rw [kg hk2,List.filter_append,List.filter_cons_of_neg (by simp_all),List.filter_nil,ig];exact fG.mono QB,fun b o h=>QB b o (hgm b o h)⟩
  intro h68 a H
  try have p68:=dF h68
  obtain rfl:k=h.marks.bE.length:=by omega
  rw [zC] at hrw fG;obtain ⟨Gr,hmr,hdr,H⟩:=St.qp (Li:=[_,_]) H hrw (rows:=(h.marks.bE.filter fun x=>!rej x.rev).map gF.dat) (by simp) fG;obtain ⟨rA,rn,rc,rfl⟩:=hdr.form;(try dsimp only [lca,bJ] at H);have hgr:∀ b o,gk b=some o->Gr b=some o:=fun b o h=>hmr b o (hgm b o h);replace q2:=fun j v hj=>aF hgr (q2 j v hj);replace q8:=fun j v hj=>aF hgr (q8 j v hj);replace q6:=aF hgr q6;replace q7:=aF hgr q7;replace xP:=xP.mono hgr;replace yQ:=yQ.mono hgr;replace hh:=hh.mono hgr;replace Ig:=Ig.mono hgr;refine dP ?_;refine bM _ _ ?_;clear bM;refine bD (fun _ dX=>?_);refine cO (fun _ fM=>?_);refine bP fH (cs:=[.slice pA pn pc,vi h.marks.ins,vi h.marks.move,.slice dA h.marks.bE.length dc,.slice lA ln lc]) H wn rfl rfl (fun j v hj=>H.hp.aH (q2 j v hj)) rfl ?_;clear H;intro a H;refine s_call aoV H wn rfl (awr _ _ H.ro h _ _ _ hh (by omega)) rfl ?_;clear H;rintro v86 G86 a w ⟨bg,rfl,hit⟩ E8 H;obtain ⟨all,hall⟩:∃ L,L=rE h.marks.layers.length h.marks.layers:=⟨_,rfl⟩;rw [<- hall] at hit;obtain ⟨hfl,hne⟩:=Hg h.marks.layers.length h.marks.layers (eu _);rw [<- hall] at hfl hne;have hsum:∀ k,k<=all.length->k<=((all.take k).flatMap Prod.snd).length∧((all.take k).flatMap Prod.snd).length<=h.marks.layers.length:=arS hfl hne;replace q2:=fun j v hj=>aF E8 (q2 j v hj);replace q6:=aF E8 q6;replace q7:=aF E8 q7;replace xP:=xP.mono E8;replace yQ:=yQ.mono E8;replace hh:=hh.mono E8;replace Ig:=Ig.mono E8;replace hdr:=hdr.mono E8;refine fM _ _ ?_;clear fM;refine Cj ?_;skip;refine U5 (ι:=ah × List aL × ah × List bS × List ah × OL) (κ:=Empty) (Lc:=[(_,_)]) (fun (k:Nat) (gh:ah × List aL × ah × List bS × List ah × OL)=>[(b9,.cells #[gh.1,vi io,vi mo,.slice rA rn rc,gh.2.2.1] 29 (0,0))]) (fun (k:Nat) (gh:ah × List aL × ah × List bS × List ah × OL)=>gh.2.2.2.2.2) (fun (k:Nat) (gh:ah × List aL × ah × List bS × List ah × OL) (g:GH)=>au g (.sl 2 (gh.2.1.map aL.dat)) gh.1∧cu 161 4 gh.2.2.1 gh.2.2.2.1.length gh.2.2.2.2.1 gh.2.2.2.2.2∧bZ g 4 (gh.2.2.2.1.map bS.dat) gh.2.2.2.2.1∧tV acc rej h.props (all.drop k) (gh.2.1,gh.2.2.2.1)=tV acc rej h.props all (h.props,[])∧gh.2.1.length<=h.props.length+k∧gh.2.2.2.1.length<=((all.take k).flatMap Prod.snd).length) (fun x=>x.elim) (fun x=>x.elim) (fun x=>x.elim) (fun x=>x.elim) ((.slice qA qn qc,h.props,.slice none 0 0,[],[],[])) (by exact H.NQ (A:=[_,_])) rfl aeJ (hit) (fun _ _ h=>h) rfl (fun k args g h=>by obtain ⟨_,_,_,rfl,_⟩:=afJ h;rfl) (fun k i G G' hm h=>⟨h.1.mono hm,h.2.1,h.2.2.1.mono hm,h.2.2.2⟩) (fun x=>x.elim) (⟨Ig,cu.nil,bZ.nil,rfl,eu _,kE _⟩) ?_ ?_ ?_
  · clear H;intro l16 Eh Ar bk k args gh uD w16 F16 B16 a atQ uh hI atd aue aCA H;obtain ⟨pv,ps,vy,ly,xs,Ly⟩:=gh;dsimp only at hI H;obtain ⟨hk,tA,tc,rfl,hlr⟩:=afJ atQ;dsimp only [zF,List.cons_append,List.nil_append] at H;obtain ⟨hpv,hrw,fG,hdc,hpl,hll⟩:=hI;obtain ⟨pvA,pvn,pvc,rfl⟩:=hpv.form;obtain ⟨vyA,vyc,rfl,-,-⟩:=hrw.shape;obtain ⟨key,hkey⟩:∃ x,x=all[k].1:=⟨_,rfl⟩;obtain ⟨ls,hls⟩:∃ x,x=all[k].2:=⟨_,rfl⟩;rw [<- hls] at hlr;rw [<- hkey,<- hls] at H;have hs1:=hsum k (by omega);have hs2:=hsum (k+1) (by omega)
    have hs3:((all.take (k+1)).flatMap Prod.snd).length=((all.take k).flatMap Prod.snd).length+ls.length:=by rw [kg hk,List.flatMap_append,iw,hls];simp
    have Ii:=aAx h.props key ls;refine kP H (SR fun _ eP=>aj eP rfl (SC (Ra rfl ?_)));clear H eP;intro a H;refine aD ?_;refine atd _ _ _ _ _ _ (by exact H) ?_;clear H;intro w H;refine kP H (SB (SR fun _ gB=>aj gB rfl (SQ fun _ iH=>SR fun _ jP=>Rm rfl (Rl lK rfl (Rm rfl (Kz jP (SB ?_)))))));clear H gB jP;intro a H;skip;refine eX (ι:=Nat × ah × List ah × OL × GH) (Tc:=[(2,_),(6,_),(7,_),(9,_),(12,_),(13,_),(89,_),(90,_)]) (Lc:=[(_,_),(_,_),(_,_)]) (fun gh=>[(14,gh.2.1),(91,vi gh.1)]) (fun gh=>[]++((bk++Ly)++gh.2.2.2.1)) (fun gh=>gh.2.2.2.2) (fun gh=>gh.1<=ls.length∧cu 242 2 gh.2.1 gh.1 gh.2.2.1 gh.2.2.2.1∧bZ gh.2.2.2.2 2 ((ls.take gh.1).map fun y=>N8 (y.before,y.had)) gh.2.2.1∧(∀ b o,uD b=some o->gh.2.2.2.2 b=some o)) (fun gh=>ls.length - gh.1) ((0,.slice none 0 0,[],[],uD)) (by exact (H.NQ (A:=[_,_,_])).sub ⟨rfl,rfl,rfl,rfl,rfl,rfl,rfl,rfl,rfl,rfl,aB⟩) ?_ ?_
    · exact Jz
    clear H;rintro ⟨i,vs,xs2,Ls,g2⟩ a w hI H;dsimp only at hI H;obtain ⟨hi,hrw2,zR,iF⟩:=hI;dsimp only [lca,bJ] at H;refine kP H (SR fun _ jH=>Rc rfl (Kz jH (SQ fun _ jr=>Cd rfl ?_ ?_))) <;> clear H jH
    · intro Hq a H
      try have KO:=dT Hq
      have hi2:i < ls.length:=by omega
      obtain ⟨bl,ol,rfl,hrow⟩:=Fj (hlr.mono iF) hi2;refine kP H (Kc jr (SQ fun _ kN=>SB (SR fun _ kQ=>Ri lK jN rfl rfl ?_)));clear H jr;intro a H;refine bP jN (cs:=[_,_,_,_]) H wn rfl rfl (fun j v hj=>H.hp.aH (hrow j v hj)) rfl ?_;clear H;intro a H;refine dO jN H wn rfl ?_;clear H;intro b16 a w asT H;refine bC jN 0 (vs:=[_,_,_,_]) H wn rfl ?_;clear H;intro w H;refine kQ _ _ ?_;clear kQ;refine kP H (SC (Rm rfl ?_));clear H;intro a H;refine bP jN (cs:=[_,_,_,_]) H wn rfl rfl (H.hp.dx 0 rfl rfl) rfl ?_;clear H;intro a H;refine s_call aoW H wn rfl (alD _ _ H.ro ls[i]) rfl ?_;clear H;rintro v97 G97 a w rfl agJ H;refine iT Lj tF [_,_] [_,_] H wn rfl rfl rfl rfl rfl (by intro i q h;match i,h with|0,h=>exact h|n+1,h=>simp at h) rfl rfl ?_;clear H;intro b98 a w aB6 H;refine oh (Li:=[_,_,_,_,_]++(bk++Ly)) (Lo:=Ls) (news:=[vi ls[i].before,.bool ls[i].had]) Lj tF rfl rfl (St.un (A:=[_,_,_,_,_]) H) wn rfl rfl hrw2 rfl (H.hp.dx 0 rfl rfl) rfl (by omega) (by omega) rfl ?_;clear H;intro v99 alj a w auI H;have H:=H.assoc;dsimp only [lca,bJ] at H;refine kH H (aX kN rfl (SC (Rd rfl (Rm rfl ?_))));clear H kN;intro a H;refine aD ?_;refine dG ((i+1,v99,xs2++[vi ls[i].before,.bool ls[i].had],alj,G97)) (by exact (H.eD (Pl:=[_,_,_,_,_]) (dN:=[_,_,_]) [2,3,4] (by decide) rfl).sub ⟨rfl,rfl,rfl,rfl,rfl,rfl,rfl,rfl,rfl,rfl,aB⟩) ?_
      (try dsimp only);exact ⟨by omega,auI,by rw [kg hi2,kF];exact (zR.mono agJ).snoc (ajM _ (ls[i].before,ls[i].had)) rfl,fun b o h=>agJ b o (iF b o h)⟩
    intro Hq a H
    try have KO:=dF Hq
    obtain rfl:i=ls.length:=by omega
    rw [zC] at zR;refine dP ?_;refine iH _ _ ?_;clear iH;refine kP H (SR fun _ jh=>Rm rfl ?_);clear H;intro a H;refine bP fH (cs:=[.slice pA pn pc,vi h.marks.ins,vi h.marks.move,.slice dA h.marks.bE.length dc,.slice lA ln lc]) H wn rfl rfl (fun j v hj=>H.hp.aH (aF iF (aF uh (q2 j v hj)))) rfl ?_;clear H;intro a H;refine kH H (Rm rfl ?_);clear H;intro a H;refine s_call aoX H wn rfl (axH _ _ H.ro h _ _ _ (hh.mono fun b o h=>iF b o (uh b o h)) key (by omega)) rfl ?_;clear H;rintro aAV aBA a w rfl agC H;refine iT Lj tF [_,_] [_,_] H wn rfl rfl rfl rfl rfl (by intro i q h;match i,h with|0,h=>exact h|n+1,h=>simp at h) rfl rfl ?_;clear H;intro aBJ a w aBR H;refine oh (Li:=[_,_,_,_]++(bk++Ly)) (Lo:=Ls) (news:=[vi (kU h.props key).1,.bool (kU h.props key).2]) Lj tF rfl rfl (St.un (A:=[_,_,_,_]) H) wn rfl rfl hrw2 rfl (H.hp.dx 0 rfl rfl) rfl (by omega) (by omega) rfl ?_;clear H;intro aCN aBH a w auz H;obtain ⟨Gs,hms,QN,H⟩:=St.qp (Li:=[_,_,_,_]++(bk++Ly)) H auz (rows:=(qg h.props key ls).map N8) (by simp [qg]) (by have h1:=(zR.mono agC).snoc (ajM _ (kU h.props key)) rfl;simpa [qg,kF,List.map_map,Function.comp_def] using h1);dsimp only [lca,bJ] at H;obtain ⟨sA,sc,rfl,-,-,-⟩:=QN.slice;rw [bQ,Ii] at QN H;have hgs:∀ b o,uD b=some o->Gs b=some o:=fun b o h=>hms b o (agC b o (iF b o h));refine kH H (aj jh rfl (SR fun _ mD=>aj mD rfl (SQ fun _ nE=>SR fun _ mE=>Rm rfl (Rl lK rfl (Rm rfl (Kz mE (SB ?_)))))));clear H jh mD mE;intro a H;skip;refine eX (ι:=Nat × Nat × GH) (Tc:=[(6,_),(7,_),(9,_),(12,_),(13,_),(14,_),(107,_),(108,_)]) (Lc:=[(_,_),(_,_),(_,_),(_,_)]) (fun gh=>[(17,vi gh.2.1),(109,vi gh.1)]) (fun gh=>[]++(bk++Ly)) (fun gh=>gh.2.2) (fun gh=>gh.1<=ls.length∧gh.2.1<=gh.1∧jd acc (ls.drop gh.1) gh.1 gh.2.1=jd acc ls 0 0∧(∀ b o,Gs b=some o->gh.2.2 b=some o)) (fun gh=>ls.length - gh.1) ((0,0,Gs)) (by exact H.sub ⟨rfl,rfl,rfl,rfl,rfl,rfl,rfl,rfl,rfl,rfl,aB⟩) ?_ ?_
    · exact ⟨by omega,eu _,by rw [wu],fun _ _ h=>h⟩
    clear H;rintro ⟨i2,c2,g3⟩ a w hI H;dsimp only at hI H;obtain ⟨hi3,hc3,hfs,qR⟩:=hI;dsimp only [lca,bJ] at H;refine kP H (SR fun _ oC=>Rc rfl (Kz oC (SQ fun _ nQ=>Cd rfl ?_ ?_))) <;> clear H oC
    · intro Wd a H
      try have axp:=dT Wd
      have hi4:i2 < ls.length:=by omega
      obtain ⟨bl,ol,rfl,hrow⟩:=Fj (hlr.mono fun b o h=>qR b o (hgs b o h)) hi4;refine kP H (Kc nQ (SQ fun _ oO=>SB (SR fun _ sI=>Rm rfl (Ri lK jN rfl rfl ?_))));clear H nQ;intro a H;refine bP jN (cs:=[_,_,_,_]) H wn rfl rfl (fun j v hj=>H.hp.aH (hrow j v hj)) rfl ?_;clear H;intro a H;refine dO jN H wn rfl ?_;clear H;intro b19 a w asU H;refine kH H (Ra rfl ?_);clear H;intro a H;refine bC jN 0 (vs:=[_,_,_,_]) H wn rfl ?_;clear H;intro w H;refine sI _ _ ?_;clear sI;refine kP H (SR fun _ rQ=>Rg BA rfl (aF qR (aF hgs (aF uh q6))) (bq P7 aC 0 rfl rfl ?_));clear H;intro a H;refine kX H wn rfl rfl (xP _ _ (fun b o h=>qR b o (hgs b o (uh b o h))) H.ro ls[i2].rev) rfl ?_;clear H;rintro v117 ZN a w rfl agD H;refine rQ _ _ ?_;clear rQ;refine jS H rfl ?_ ?_
      · intro Wi
        try have axt:=dT Wi
        refine kP H (SC (Rm rfl (Rd rfl (aX oO rfl (SC (Rd rfl (Rm rfl ?_)))))));clear H oO;intro a H;refine aD ?_;refine dG ((i2+1,i2+1,ZN)) (by exact (H.eD (Pl:=[_,_,_,_,_]) (dN:=[_,_,_,_]) [1,2,3,4] (by decide) rfl).sub ⟨rfl,rfl,rfl,rfl,rfl,rfl,rfl,rfl,rfl,rfl,aB⟩) ?_
        (try dsimp only);exact ⟨by omega,eu _,by rw [oF hi4,jd,aG (by assumption)] at hfs;exact hfs,fun b o h=>agD b o (qR b o h)⟩
      intro Wi
      try have axt:=dF Wi
      refine kP H (Kc oO (SC (Rd rfl (Rm rfl ?_))));clear H oO;intro a H;refine aD ?_;refine dG ((i2+1,c2,ZN)) (by exact (H.eD (Pl:=[_,_,_,_,_]) (dN:=[_,_,_,_]) [1,2,3,4] (by decide) rfl).sub ⟨rfl,rfl,rfl,rfl,rfl,rfl,rfl,rfl,rfl,rfl,aB⟩) ?_
      (try dsimp only);exact ⟨by omega,by omega,by rw [oF hi4,jd,av (by simp_all)] at hfs;exact hfs,fun b o h=>agD b o (qR b o h)⟩
    intro Wd a H
    try have axp:=dF Wd
    obtain rfl:i2=ls.length:=by omega
    rw [List.drop_length,jd] at hfs;have hgt:∀ b o,uD b=some o->g3 b=some o:=fun b o h=>qR b o (hgs b o h);obtain ⟨bs,os,rfl,hr2⟩:=ajP (QN.mono qR) (k:=c2) (by rw [Ii];omega);obtain ⟨Rz,hn0⟩:∃ s,s=(qg h.props key ls)[c2]'(by rw [Ii];omega):=⟨_,rfl⟩;rw [<- hn0] at hr2
    have hgd:(qg h.props key ls).getD c2 (0,false)=Rz:=by rw [hn0,List.getD_eq_getElem?_getD,dV (show c2 < (qg h.props key ls).length by rw [Ii];omega)];rfl
    refine dP ?_;refine nE _ _ ?_;clear nE;refine kP H (SR fun _ uE=>Rm rfl (Rm rfl ?_));clear H;intro a H;refine vX Lj tF c2 H wn rfl rfl rfl (by omega) rfl ?_;clear H;intro a H;refine bP tF (cs:=[vi Rz.1,.bool Rz.2]) H wn rfl rfl (fun j v hj=>H.hp.aH (hr2 j v hj)) rfl ?_;clear H;intro a H;refine dO tF H wn rfl ?_;clear H;intro b20 a w agk H;refine bC tF 0 (vs:=[_,_]) H wn rfl ?_;clear H;intro w H;refine uE _ _ ?_;clear uE;refine kP H (SQ fun _ yx=>SR fun _ BO=>Rm rfl (aj BO rfl (SB ?_)));clear H BO;intro a H;skip;refine eX (ι:=Nat × (Int × Bool) × ah × List bS × List ah × OL × GH) (Tc:=[(7,_),(9,_),(12,_),(13,_),(14,_),(20,_)]) (Lc:=[(_,_),(_,_),(_,_)]) (fun gh=>[(21,vi gh.1)]) (fun gh=>[(b20,.cells #[vi gh.2.1.1,.bool gh.2.1.2] 242 (0,0)),(b9,.cells #[.slice pvA pvn pvc,vi io,vi mo,.slice rA rn rc,gh.2.2.1] 29 (0,0))]++(bk++gh.2.2.2.2.2.1)) (fun gh=>gh.2.2.2.2.2.2) (fun gh=>c2<=gh.1∧gh.1<=ls.length∧cu 161 4 gh.2.2.1 gh.2.2.2.1.length gh.2.2.2.2.1 gh.2.2.2.2.2.1∧bZ gh.2.2.2.2.2.2 4 (gh.2.2.2.1.map bS.dat) gh.2.2.2.2.1∧gh.2.2.2.1++(um rej (qg h.props key ls) (ls.drop gh.1) gh.1 gh.2.1).1=ly++(lZ acc rej h.props key ls).1∧(um rej (qg h.props key ls) (ls.drop gh.1) gh.1 gh.2.1).2=(lZ acc rej h.props key ls).2∧gh.2.2.2.1.length<=ly.length+gh.1∧(∀ b o,g3 b=some o->gh.2.2.2.2.2.2 b=some o)) (fun gh=>ls.length - gh.1) ((c2,Rz,.slice vyA ly.length vyc,ly,xs,Ly,g3)) (by exact (H.eD (Pl:=[_,_,_,_,_]) (dN:=[_,_,_,_,_]) [1,2,3,0,4] (by decide) rfl).sub ⟨rfl,rfl,rfl,rfl,rfl,rfl,rfl,aB⟩) ?_ ?_
    · exact ⟨eu _,by omega,hrw,fG.mono hgt,by rw [lZ,<- hfs,hgd],by rw [lZ,<- hfs,hgd],by show ly.length<=ly.length+c2;omega,fun _ _ h=>h⟩
    clear H;rintro ⟨i3,now,vy3,Ea,ZA,TL,g4⟩ a w hI H;dsimp only at hI H;obtain ⟨hi5,hi6,hrw3,WS,hq1,hq2,hq3,uU⟩:=hI;obtain ⟨SN,SS,rfl,-,-⟩:=hrw3.shape;have hgu:∀ b o,uD b=some o->g4 b=some o:=fun b o h=>uU b o (hgt b o h);dsimp only [lca,bJ] at H;refine kP H (SQ fun _ qJ=>SR fun _ Di=>Rm rfl (Rm rfl (Rl lK rfl (Rc rfl (Kz Di (Cd rfl ?_ ?_)))))) <;> clear H Di
    · intro Wj a H
      try have axv:=dT Wj
      have hi7:i3 < ls.length:=by omega
      obtain ⟨bl,ol,rfl,hrow⟩:=Fj (hlr.mono hgu) hi7;rw [oF hi7,um] at hq1 hq2;refine kP H (Kc qJ (SQ fun _ BP=>SB (SQ fun _ F4=>SQ fun _ EB=>?_)));clear H qJ;intro a H;refine dI hmx [[],[],[],[1,2],[1,2,3],ra 1 4,ra 0 6] [6] (by kernel_rfl) [_,_,_,(aJ bl (ol+i3*4)),_,_] H (ay (X0 rfl fun hG=>Rg BA rfl (aF hG (aF hgu (aF uh q7)))) (Z0 rfl (Rm rfl)) (Z0 rfl (Rm rfl)) ?_ (bF (Z1 3 135 rfl (Rf P7 rfl)) (bF (X1 4 136 rfl fun hG=>Rg aC rfl (aF hG (hrow 0 _ rfl))) (bF (bR rfl) cK)))) ?_
      · refine dY 1 133 2 134 rfl rfl fun _ a w G1 hG HT H fin=>?_;refine vX lK jN i3 H wn rfl rfl rfl (by omega) rfl ?_;exact jk
      clear H;intro a w G Ht H hv;have H:=H.aM (hv 0 132 rfl rfl) rfl;have H:=H.aM (hv 5 137 rfl rfl) rfl;clear hv;refine kX H wn rfl rfl (yQ _ _ (fun b o h=>Ht b o (hgu b o (uh b o h))) H.ro ls[i3].rev) rfl ?_;clear H;rintro v138 akY a w rfl Ke H;refine aD ⟨rfl,?_⟩;refine EB _ _ ?_;clear EB;refine jS H rfl ?_ ?_
      · intro Wm
        try have axx:=dT Wm
        refine dP ?_;refine BP _ _ ?_;clear BP;refine kP H (SC (Rm rfl (Rd rfl (Ra rfl ?_))));clear H;intro a H;refine aD ?_;refine dG ((i3+1,now,.slice SN Ea.length SS,Ea,ZA,TL,akY)) (by exact H.sub ⟨rfl,rfl,rfl,rfl,rfl,rfl,rfl,aB⟩) ?_
        (try dsimp only);exact ⟨by omega,by omega,hrw3,WS.mono fun b o h=>Ke b o (Ht b o h),by rw [aG (by assumption)] at hq1;exact hq1,by rw [aG (by assumption)] at hq2;exact hq2,by omega,fun b o h=>Ke b o (Ht b o (uU b o h))⟩
      intro Wm
      try have axx:=dF Wm
      rw [av (by simp_all)] at hq1 hq2;refine iB ?_;refine F4 _ _ ?_;clear F4;refine bD (fun _ F5=>?_)
      have aha:∀ (aK bT:Nat) (v:ah) (G G':GH),(∀ k o,G k=some o->G' k=some o)->(fun (aK bT:Nat) (v:ah) (G:GH)=>match bT with|0=>v=(aJ b9 1)|1=>v=(aJ b9 4)|2=>v=.slice SN Ea.length SS|3=>v=.slice (some ⟨bl,ol,none⟩) ls.length tc|4=>v=vi i3|5=>v=(aJ bl (ol+i3*4))|6=>v=.agg ls[i3].cells.toArray|7=>v=IQ now|8=>v=.agg (bS.cells ⟨ls[i3].rev,ls[i3].key,now.1,now.2⟩).toArray|9=>v=.slice (some ⟨aK,0,none⟩) 1 1|_=>True) aK bT v G->(fun (aK bT:Nat) (v:ah) (G:GH)=>match bT with|0=>v=(aJ b9 1)|1=>v=(aJ b9 4)|2=>v=.slice SN Ea.length SS|3=>v=.slice (some ⟨bl,ol,none⟩) ls.length tc|4=>v=vi i3|5=>v=(aJ bl (ol+i3*4))|6=>v=.agg ls[i3].cells.toArray|7=>v=IQ now|8=>v=.agg (bS.cells ⟨ls[i3].rev,ls[i3].key,now.1,now.2⟩).toArray|9=>v=.slice (some ⟨aK,0,none⟩) 1 1|_=>True) aK bT v G':=by
        intro aK bT v G G' hm h
        match bT,h with
        | 0,h=>exact h
        | 1,h=>exact h
        | 2,h=>exact h
        | 3,h=>exact h
        | 4,h=>exact h
        | 5,h=>exact h
        | 6,h=>exact h
        | 7,h=>exact h
        | 8,h=>exact h
        | 9,h=>exact h
        | 10,h=>exact trivial
        | 11,h=>exact trivial
        | 12,h=>exact trivial
        | 13,h=>exact trivial
        | _+14,h=>exact trivial
      refine amq (hmx) [[],[0],[0,1],[],[],[3,4],[3,4,5],[],ra 3 5,ra 3 6,ra 0 10,ra 0 11,ra 0 12,ra 0 13] (ra 10 4) (by kernel_rfl) (by kernel_rfl) 9 (by decide) (.cells #[vi ls[i3].rev,vi ls[i3].key,vi now.1,.bool now.2] 161 (0,0)) (fun (aK bT:Nat) (v:ah) (G:GH)=>match bT with|0=>v=(aJ b9 1)|1=>v=(aJ b9 4)|2=>v=.slice SN Ea.length SS|3=>v=.slice (some ⟨bl,ol,none⟩) ls.length tc|4=>v=vi i3|5=>v=(aJ bl (ol+i3*4))|6=>v=.agg ls[i3].cells.toArray|7=>v=IQ now|8=>v=.agg (bS.cells ⟨ls[i3].rev,ls[i3].key,now.1,now.2⟩).toArray|9=>v=.slice (some ⟨aK,0,none⟩) 1 1|_=>True) (fun _ _ i v G hi h=>by
        (iterate 14 (rcases i with _|i;(first|exact h|exact absurd rfl hi)));exact trivial) H ?_ ?_ ?_ (by kernel_rfl)
      · clear H;refine ay ?_ ?_ ?_ ?_ (ay ?_ ?_ ?_ ?_ (ay ?_ ?_ ?_ ?_ (bF ?_ (bF ?_ cK))))
        · intro aK dM bH a w G1 fF _ _ aO hc hG HT hv;have H:=HT;clear aO;have Hb:=H.full;have H:=Hb;clear hc;refine kH H (Rf qo rfl ?_);exact GJ
        · intro aK dM bH a w G1 fF _ _ aO hc hG HT hv;have H:=HT;clear aO;have H:=H.aM (hv 0 139 (hc 0 (by decide)) rfl) rfl;have Hb:=H.full;have H:=Hb;clear hc;refine kH H (Rf Az rfl ?_);exact GJ
        · intro aK dM bH a w G1 fF _ _ aO hc hG HT hv;have H:=HT;clear aO;have H:=H.aM (hv 1 140 (hc 1 (by decide)) rfl) rfl;have Hb:=H.full;have H:=Hb;clear hc;refine qE BD H wn rfl (H.hp.zW (fF _ (gK _ (gK _ (gK _ (gK _ eT))))) rfl) rfl ?_;exact GJ
        · exact abN
        · exact abN
        · intro aK dM bH a w G1 fF _ _ aO hc hG HT hv;have H:=HT;clear aO;have H:=H.aM (hv 3 142 (hc 3 (by decide)) rfl) rfl;have H:=H.aM (hv 4 143 (hc 4 (by decide)) rfl) rfl;have Hb:=H.full;have H:=Hb;clear hc;refine vX lK jN i3 H wn rfl rfl rfl (by omega) rfl ?_;exact GJ
        · intro aK dM bH a w G1 fF _ _ aO hc hG HT hv;have H:=HT;clear aO;have H:=H.aM (hv 5 144 (hc 5 (by decide)) rfl) rfl;have Hb:=H.full;have H:=Hb;clear hc;refine bP jN (cs:=ls[i3].cells) H wn rfl rfl (fun j v hj=>H.hp.aH (aF hG (aF Ke (aF Ht (hrow j v hj))))) rfl ?_;exact GJ
        · intro aK dM bH a w G1 fF _ _ aO hc hG HT hv;have H:=HT;clear aO;have Hb:=H.full;have H:=Hb;clear hc;refine bP tF (cs:=[vi now.1,.bool now.2]) H wn rfl rfl (fun j v hj=>H.hp.zW (fF _ (gK _ (gK _ (gK _ eT)))) (by simpa using hj)) rfl ?_;exact GJ
        · intro aK dM bH a w G1 fF _ _ aO hc hG HT hv;have H:=HT;clear aO;have H:=H.aM (hv 6 145 (hc 6 (by decide)) rfl) rfl;have H:=H.aM (hv 7 146 (hc 7 (by decide)) rfl) rfl;have Hb:=H.full;have H:=Hb;clear hc;refine s_call aoY H wn rfl (arM _ _ H.ro ls[i3] now) rfl ?_;clear H;rintro aCQ aBC a w rfl arW H;refine aD ⟨rfl,?_⟩;exact xJ (by kernel_rfl) (aha aK) rfl rfl HT Hb hG hv arW (rfl) H
        · exact xG
        · exact Mf
        · exact Mf
        · exact Mf
        exact GL
      · clear H;intro o_ bH a w G1 qB _ hc hG HT hv;obtain rfl:_=o_:=Option.some.inj qB;clear qB;have H:=HT;have H:=H.aM (hv 0 8 147 (by decide) (hc 8 (by decide)) rfl) rfl;have Hb:=H.full;have H:=Hb;clear hc;refine iT lK jN [_,_,_,_] [_,_,_,_] H wn rfl rfl rfl rfl rfl (by intro i q h;match i,h with|0,h=>exact h|n+1,h=>simp at h) rfl rfl ?_;clear H;intro aau a w aBS H;refine aD ⟨rfl,aau,?_⟩;exact Ud
      clear H;intro aau a w G WC H hv;have H:=H.aM (hv 2 141 rfl rfl) rfl;have H:=H.aM (hv 9 148 rfl rfl) rfl;clear hv;refine oh (Li:=[_,_,_,_,_,_]++bk) (Lo:=TL) (news:=bS.cells ⟨ls[i3].rev,ls[i3].key,now.1,now.2⟩) lK jN rfl rfl (St.un (A:=[_,_,_,_,_,_]) H) wn rfl rfl hrw3 rfl (H.hp.dx 0 rfl rfl) rfl (by omega) (by omega) rfl ?_;clear H;intro aCR alo a w ahi H;obtain ⟨aBy,aBL,rfl,-,-⟩:=ahi.shape;have H:=H.assoc;dsimp only [lca,bJ] at H;refine kH H (Rf qo rfl (Rf Az rfl ?_));clear H;intro a H;refine bC BD 5 (vs:=[_]) H wn rfl ?_;clear H;intro w H;refine aD ⟨rfl,?_⟩;refine F5 _ _ ?_;clear F5;obtain ⟨_,_,he,hr3⟩:=ajP (QN.mono fun b o h=>WC b o (Ke b o (Ht b o (uU b o (qR b o h))))) (k:=i3+1) (by rw [Ii];omega)
      injection he with he
      injection he with e1 e2
      subst e1 e2;obtain ⟨nx,hn1⟩:∃ s,s=(qg h.props key ls)[i3+1]'(by rw [Ii];omega):=⟨_,rfl⟩;rw [<- hn1] at hr3
      have hnx:nx=(qg h.props key ls).getD (i3+1) (0,false):=by rw [hn1,List.getD_eq_getElem?_getD,dV (show i3+1 < (qg h.props key ls).length by rw [Ii];omega)];rfl
      refine kP H (SC (Rm rfl (Rm rfl (Rd rfl ?_))));clear H;intro a H;refine vX Lj tF (i3+1) H wn rfl rfl (by omega) (by omega) rfl ?_;clear H;intro a H;refine bP tF (cs:=[vi nx.1,.bool nx.2]) H wn rfl rfl (fun j v hj=>H.hp.aH (hr3 j v hj)) rfl ?_;clear H;intro a H;refine bC tF 4 (vs:=[_,_]) H wn rfl ?_;clear H;intro w H;refine kH H (Kn BP (SC (Rm rfl (Rd rfl (Ra rfl ?_)))));clear H BP;intro a H;refine aD ?_;refine dG ((i3+1,nx,_,Ea++[⟨ls[i3].rev,ls[i3].key,now.1,now.2⟩],ZA++bS.cells ⟨ls[i3].rev,ls[i3].key,now.1,now.2⟩,alo,_)) (by exact (H.eD (Pl:=[_,_,_,_,_,_]) (dN:=[_,_,_,_,_]) [1,2,3,4,5] (by decide) rfl).sub ⟨rfl,rfl,rfl,rfl,rfl,rfl,rfl,aB⟩) ?_
      (try dsimp only);exact ⟨by omega,by omega,by rw [iw];exact ahi,by rw [kF];exact (WS.mono fun b o h=>WC b o (Ke b o (Ht b o h))).snoc (avS _ ⟨ls[i3].rev,ls[i3].key,now.1,now.2⟩) rfl,by rw [iZ,hnx];exact hq1,by rw [hnx];exact hq2,by rw [iw];show Ea.length+1<=_;omega,fun b o h=>WC b o (Ke b o (Ht b o (uU b o h)))⟩
    intro Wj a H
    try have axv:=dF Wj
    obtain rfl:i3=ls.length:=by omega
    rw [List.drop_length,um] at hq1 hq2;rw [ig] at hq1;have hq4:=V6 acc rej h.props key ls;refine dP ?_;refine yx _ _ ?_;clear yx;refine nH ?_;refine bP fH (cs:=[_,_,_,_,_]) H wn rfl rfl (H.hp.dx 4 rfl rfl) rfl ?_;clear H;intro a H;refine kH H (Rm rfl ?_);clear H;intro a H;refine bP tF (cs:=[_,_]) H wn rfl rfl (H.hp.dx 3 rfl rfl) rfl ?_;clear H;intro a H;refine s_call aoZ H wn rfl (aBl _ _ H.ro ps io mo _ _ _ _ _ _ _ (hpv.mono hgu) key now (by omega)) rfl ?_;clear H;rintro v160 aBD a w ⟨aCL,rfl,agS⟩ atU H;obtain ⟨akV,n160,c160,rfl⟩:=agS.form;refine bC fH 4 (vs:=[_,_,_,_,_]) H wn rfl ?_;clear H;intro w H;refine aD ?_;refine aue ((.slice akV n160 c160,vw ps key now,_,Ea,ZA,TL)) _ _ _ _ _ (by exact H.eD (Pl:=[_,_,_,_,_]) (dN:=[_,_,_]) [1,2,4] (by decide) rfl) ?_;exact ⟨agS,hrw3,WS.mono atU,by rw [<- hdc,oF hk,tV,<- hkey,<- hls,<- hq1,<- hq2],by have:=akF ps key now;show (vw ps key now).length<=_;omega,by show Ea.length<=_;rw [hs3,hq1,iw];omega⟩
  · clear H;intro aBz gh aBE a w uh hI H;obtain ⟨pv,ps,vy,ly,xs,Ly⟩:=gh;dsimp only at hI H;dsimp only [lca,bJ] at H;obtain ⟨hpv,hrw,fG,hdc,hpl,hll⟩:=hI;rw [bQ,List.drop_length,tV] at hdc;obtain ⟨pvA,pvn,pvc,rfl⟩:=hpv.form;obtain ⟨vyA,vyc,rfl,-,-⟩:=hrw.shape
    have hdh:iE acc rej h=⟨ps,⟨io,mo,h.marks.bE.filter fun x=>!rej x.rev,ly⟩⟩:=by unfold iE;rw [<- hall,<- hdc,hio,hmo]
    refine dX _ _ ?_;clear dX;refine cO (fun _ EC=>?_);refine bP fH (cs:=[_,_,_,_,_]) H wn rfl rfl (H.hp.dx 2 rfl rfl) rfl ?_;clear H;intro a H;refine bC fH 1 (vs:=[_,_,_,_,_]) H wn rfl ?_;clear H;intro w H;refine kH H (aj EC rfl ?_);clear H EC;intro a H;refine eO ?_;refine (NM H 0 rfl ?_).1;clear H;intro a w H;dsimp only [List.eraseIdx_cons_succ,List.eraseIdx_cons_zero] at H;exact Pk
  intro Dk x;exact x.elim
section
def mJ (x:Nat->ah × OL) (m:Nat) (y:ah × OL):Nat->ah × OL:=fun j=>if j=m then y else x j
theorem Zq (x:Nat->ah × OL) (m:Nat) (y:ah × OL):mJ x m y m=y:=aG rfl
theorem Zr {x:Nat->ah × OL} {m j:Nat} {y:ah × OL} (h:j≠m):mJ x m y j=x j:=av h
def iM (ms:List Nat) (S:Nat->Bool) (x:Nat->ah × OL):OL:=ms.flatMap fun m=>bif S m then (x m).2 else []
theorem afy {S:Nat->Bool} {x:Nat->ah × OL} {y:ah × OL} {m:Nat}:∀ {ms:List Nat},m∉ms->iM ms (dB S m) (mJ x m y)=iM ms S x
 | [],_=>rfl
 | k :: ms,h=>by
  have hk:k≠m:=fun e=>h (by simp [e])
  have ih:=afy (S:=S) (x:=x) (y:=y) (ms:=ms) fun hm=>h (gK _ hm)
  unfold iM at ih |-
  rw [List.flatMap_cons,List.flatMap_cons,ih,Zr hk,show dB S m k=S k from av hk]
theorem afz {S:Nat->Bool} {x:Nat->ah × OL} {y:ah × OL} {m:Nat} (hS:S m=false):∀ {ms:List Nat},ms.Nodup->m∈ms->(y.2++iM ms S x).Perm (iM ms (dB S m) (mJ x m y))
 | k :: ms,hn,hm=>by
  rw [List.nodup_cons] at hn
  by_cases hk:k=m
  ·subst hk
   have e:=afy (S:=S) (x:=x) (y:=y) hn.1
   unfold iM at e |-
   rw [List.flatMap_cons,List.flatMap_cons,e,Zq,hS,show dB S k k=true from aG rfl]
   exact List.Perm.refl _
  ·have ih:=afz (S:=S) (x:=x) (y:=y) hS hn.2 (by
    rcases fV.1 hm with e|h
    ·exact absurd e.symm hk
    ·exact h)
   unfold iM at ih |-
   rw [List.flatMap_cons,List.flatMap_cons,Zr hk,show dB S m k=S k from av hk,<- iZ]
   refine (List.Perm.append_right _ pK).trans ?_
   rw [iZ]
   exact List.Perm.append_left _ ih
section
variable {N:Nat} {D:List Deferred} {w0:World} {F:Nat->Prop} {G0 G G1 G2:GH} {L L1 L2:OL} {T Xs:List (Nat × ah)}
variable {r:Option Nat} {P:Program} {Q:Exit->Act->World->Prop} {l:List Oper} {a a':Act} {w w':World}
theorem U4 {id:Nat} (ms:List Nat) (hm:P.follows .mixedOrders=true) (bL:List (List Nat)) (B:List Nat) (hk:yH l bL=true) (hB:wV l bL B=true) (hnd:ms.Nodup) (hms:(ms.all fun m=>Nat.blt m l.length && !B.contains m)=true) (pr:(Nat->ah × OL)->Nat->ah->GH->Prop)
  (hp:∀ m,ms.contains m=true->∀ x y i v G,Nat.beq i m=false->(bL.getD i []).contains m=false->pr x i v G->pr (mJ x m y) i v G)
  (H:St N D w0 F G0 G L T a w)
  (hstep:allI (fun i o=>∀ x L' S a w G1,(∀ q,q∈L->q∈L')->B.contains i=false->ms.contains i=false->S i=false->(∀ j∈bL.getD i [],S j=true)->(∀ k o,G k=some o->G1 k=some o)->St N D w0 F G0 G1 L' T a w->(∀ i d,S i=true->eB l i=some d->∃ v,a.tmps[d]?=some v∧pr x i v G1) ->
   WL r P l.toArray (fun e a' w'=>e=.normal∧DX N D w0 F G0 G L' T l (pr x) (dB S i) a' w') [o] a w) 0 l)
  (hmid:allI (fun m o=>ms.contains m=true->∀ x L' S a w G1,(∀ q,q∈L->q∈L')->S m=false->(∀ j∈bL.getD m [],S j=true)->(∀ k o,G k=some o->G1 k=some o)->St N D w0 F G0 G1 L' T a w->(∀ y i d,i≠m->S i=true->eB l i=some d->∃ v,a.tmps[d]?=some v∧pr (mJ x m y) i v G1) ->
   WL r P l.toArray (fun e a' w'=>e=.normal∧∃ y,DX N D w0 F G0 G (y.2++L') T l (pr (mJ x m y)) (dB S m) a' w') [o] a w) 0 l)
  (hend:∀ x a w G1,(∀ k o,G k=some o->G1 k=some o)->St N D w0 F G0 G1 (iM ms (fun _=>true) x++L) T a w->(∀ i d,B.contains i=false->eB l i=some d->∃ v,a.tmps[d]?=some v∧pr x i v G1)->WL r P l.toArray (fun e a w=>e=.normal∧Q .normal a w) (qC l B) a w):WP r P (.region id l.toArray true) Q a w:=by
 refine GR hm bL B hk hB (fun S a w=>∃ x,DX N D w0 F G0 G (iM ms S x++L) T l (pr x) S a w)
  ⟨fun _=>(.bool false,[]),DX.perm (L1:=L) ⟨G,fun _ _ h=>h,H.move H.hp.drew,fun _ _ h=>absurd (show false=true from h) (by decide)⟩ (by
   have:∀ ms:List Nat,iM ms (fun _=>false) (fun _=>(.bool false,[]))=[]:=fun ms=>by
    induction ms with
    | nil=>rfl
    | cons k ms ih=>unfold iM at ih |-;rw [List.flatMap_cons,ih];rfl
   rw [this];exact List.Perm.refl _)⟩ ?_ ?_
 ·rintro i o S a w ho hb aO kI hdesc ⟨x,G1,hG,HS,hv⟩
  have hsub:∀ q,q∈L->q∈iM ms S x++L:=fun q hq=>List.mem_append_right _ hq
  have hno:∀ j,j < l.length->S j=true->(bL.getD j []).contains i=false:=fun j hjl hj=>by
   cases hc:(bL.getD j []).contains i with
   | false=>rfl
   | true =>
    have:=hdesc j hjl (by simpa using hc)
    rw [this] at hj;cases hj
  cases hi:ms.contains i with
  | true =>
   have h:=zD hmid i o ho
   rw [gI] at h
   have h:=h hi x _ S a w G1 hsub aO kI hG HS fun y j d hj hSj hd=>by
    obtain ⟨v,hv1,hv2⟩:=hv j d hSj hd
    exact ⟨v,hv1,hp i hi x y j v _ (uK hj) (hno j (uP hd) hSj) hv2⟩
   refine oN (fun e a' w' ⟨he,y,hD⟩=>⟨he,mJ x i y,hD.perm ?_⟩) h
   rw [<- iZ]
   exact List.Perm.append_right L (afz aO hnd (by simpa using hi))
  | false =>
   have h:=zD hstep i o ho
   rw [gI] at h
   have e:∀ ms:List Nat,i∉ms->iM ms (dB S i) x=iM ms S x:=fun ms hn=>by
    induction ms with
    | nil=>rfl
    | cons k ms ih =>
     have ih:=ih fun h=>hn (gK _ h)
     unfold iM at ih |-
     rw [List.flatMap_cons,List.flatMap_cons,ih,show dB S i k=S k from av fun e=>hn (by simp [e])]
   refine oN (fun e' a' w' ⟨he,hD⟩=>⟨he,x,?_⟩) (h x _ S a w G1 hsub hb hi aO kI hG HS hv)
   rw [e ms (by simpa using hi)]
   exact hD
 ·rintro S a w hall Ko ⟨x,G1,hG,HS,hv⟩
  have hS:∀ m∈ms,S m=true:=fun m hmm=>by
   have h:=jI.1 hms m hmm
   rw [ji] at h
   exact hall m (Eq.mp Nat.blt_eq h.1) (by simpa using h.2)
  have e:∀ ms:List Nat,(∀ m∈ms,S m=true)->iM ms S x=iM ms (fun _=>true) x:=fun ms h=>by
   induction ms with
   | nil=>rfl
   | cons k ms ih =>
    have ih:=ih fun m hm=>h m (gK _ hm)
    unfold iM at ih |-
    rw [List.flatMap_cons,List.flatMap_cons,ih,h k eT]
  replace e:=e ms hS
  rw [e] at HS
  exact hend x a w G1 hG HS fun j d hb hd=>hv j d (hall j (uP hd) hb) hd
end
end
section
theorem VG:aQ 98:=aR func98 rfl
theorem apa:aQ 165:=aR func165 rfl
def Dj (fv:ah) (G:GH) (acc rej:Int->Bool):Prop:=∀ (G1:GH) (w1:World),(∀ b o,G b=some o->G1 b=some o)->Hold G1 w1->∀ (h:dJ) (p d l:ah),jy G1 h p d l->mK h<=1073741824->tL prog fv [rX h p d l] w1 (bK w1 G1 (sH acc rej h))
theorem Dj.mono {fv:ah} {G G':GH} {acc rej:Int->Bool} (hm:∀ b o,G b=some o->G' b=some o) (h:Dj fv G acc rej):Dj fv G' acc rej:=fun G1 w1 h1=>h G1 w1 fun b o hb=>h1 b o (hm b o hb)
variable {acc rej:Int->Bool}
def eU (acc rej:Int->Bool) (h:dJ):dJ:=if lS acc rej h then BL else iE acc rej h
theorem sH.ans {h:dJ} {u:ah} {G:GH} (hd:sH acc rej h u G):∃ pA pn pc dA dn dc lA ln lc,u=.tuple #[.agg #[.slice pA pn pc,vi (eU acc rej h).marks.ins,vi (eU acc rej h).marks.move,.slice dA dn dc,.slice lA ln lc],.bool (!decide (lS acc rej h))]∧jy G (eU acc rej h) (.slice pA pn pc) (.slice dA dn dc) (.slice lA ln lc):=by
 unfold sH at hd
 unfold eU
 by_cases hg:lS acc rej h
 ·rw [aG hg] at hd |-;obtain ⟨p,d,l,rfl,hh⟩:=hd;obtain ⟨pA,pn,pc,rfl⟩:=hh.props.form;obtain ⟨dA,dn,dc,rfl⟩:=hh.bE.form;obtain ⟨lA,ln,lc,rfl⟩:=hh.layers.form;exact ⟨pA,pn,pc,dA,dn,dc,lA,ln,lc,by simp [hg],hh⟩
 rw [av hg] at hd |-;obtain ⟨p,d,l,rfl,hh⟩:=hd;obtain ⟨pA,pn,pc,rfl⟩:=hh.props.form;obtain ⟨dA,dn,dc,rfl⟩:=hh.bE.form;obtain ⟨lA,ln,lc,rfl⟩:=hh.layers.form;exact ⟨pA,pn,pc,dA,dn,dc,lA,ln,lc,by simp [hg],hh⟩
def OW (fv:ah) (acc rej:Int->Bool) (n:Nat):Prop:=∀ (G:GH) (w0:World),Hold G w0->Dj fv G acc rej->∀ (l:List ak) (v:ah),au G (.sl 11 (l.map ak.dat)) v->bO l < n ->
 Calls prog 98 #[fv,v] w0 (bK w0 G fun u G'=>au G' (.sl 11 ((dS acc rej l).map ak.dat)) u)
theorem aaY {p:Prop} (h:p:=by
 exact ⟨by omega,by rw [Sb hk2,hone,ig];exact hrw,by rw [Sb hk2,hone,ig];exact fG.mono qQ,fun b o h=>qQ b o (hgm b o h)⟩):p:=h
theorem alZ {p:Prop} (h:p:=by
 exact Dx HT Hb hG hv (QH aK) H rfl):p:=h
theorem JC {p:Prop} (h:p:=by
 clear H;intro a H;refine aD ⟨rfl,?_⟩;exact alZ):p:=h
theorem abO {p:Prop} (h:p:=by
 intro aK dM bH a w G1 fF _ _ aO hc hG HT hv;have H:=HT;clear aO;have Hb:=H.full;have H:=Hb;clear hc;refine kH H (Rm rfl ?_);exact JC):p:=h
set_option maxHeartbeats 4000000 in
theorem ayJ {fv:ah} {n:Nat} (ih:OW fv acc rej n) (hn:n<=536870913) (G:GH) (w0:World) (hG:Hold G w0) (hf:Dj fv G acc rej) (l:List aS) (v:ah) (hv:au G (.sl 6 (l.map aS.dat)) v) (hz:gJ l < n) :
  Calls prog 165 #[fv,v] w0 (bK w0 G fun u G'=>au G' (.sl 6 ((gN acc rej l).map aS.dat)) u):=by
 obtain ⟨A,c,rfl,hc1,hc2,hg⟩:=hv.slice
 have hml:4294967297<=maxLen:=by decide
 have hll:=IZ l;rw [bQ] at *;refine eN [(0,_),(1,_)] func165 rfl ntmps165 rfl rfl hG ?_;intro a H;refine kP H (SR fun _ K1=>aj K1 rfl (SR fun _ K2=>aj K2 rfl (SQ fun _ K3=>SR fun _ K4=>Rm rfl (Rl nP rfl (Rm rfl (Kz K4 (SB ?_)))))));clear H K1 K2 K4;intro a H;skip;refine eX (ι:=Nat × ah × List ah × OL × GH) (Tc:=[(0,_),(15,_),(16,_)]) (Lc:=[]) (fun gh=>[(5,gh.2.1),(17,vi gh.1)]) (fun gh=>[]++gh.2.2.2.1) (fun gh=>gh.2.2.2.2) (fun gh=>gh.1<=l.length∧cu 74 6 gh.2.1 (gN acc rej (l.take gh.1)).length gh.2.2.1 gh.2.2.2.1∧bZ gh.2.2.2.2 6 ((gN acc rej (l.take gh.1)).map aS.dat) gh.2.2.1∧(∀ b o,G b=some o->gh.2.2.2.2 b=some o)) (fun gh=>l.length - gh.1) ((0,.slice none 0 0,[],[],G)) (by exact H.sub ⟨rfl,rfl,rfl,rfl,rfl,aB⟩) ?_ ?_
 ·exact Jz
 clear H;rintro ⟨k,v,xs,Lo,g⟩ a w hI H;dsimp only at hI H;obtain ⟨hk,hrw,fG,hgm⟩:=hI;have hrl:=YD (acc:=acc) (rej:=rej) (l.take k);rw [List.length_take] at hrl;dsimp only [lca,bJ] at H;refine kP H (SR fun _ K5=>Rc rfl (Kz K5 (SQ fun _ K6=>Cd rfl ?_ ?_))) <;> clear H K5
 ·intro h18 a H
  try have Ef:=dT h18
  have hk2:k < l.length:=by omega
  obtain ⟨b_,o_,pA,pn,pc,dA,dn,dc,yA,yn,yc,cA,cn,cc,rfl,hrow,hhd,hcl⟩:=KS hk2 hg;replace hrow:=fun j u hj=>aF hgm (hrow j u hj);replace hhd:=hhd.mono hgm;replace hcl:=hcl.mono hgm;have hzr:=Ou hk2;have hce:=aji (acc:=acc) (rej:=rej) l[k];refine kP H (Kc K6 (SQ fun _ K7=>SB (SR fun _ K8=>Ri nP jV rfl rfl ?_)));clear H K6;intro a H;refine bP jV (cs:=[_,_,_,_,_,_]) H wn rfl rfl (fun j v hj=>H.hp.aH (hrow j v hj)) rfl ?_;clear H;intro a H;refine dO jV H wn rfl ?_;clear H;intro b7 a w AZ H;refine bC jV 0 (vs:=[_,_,_,_,_,_]) H wn rfl ?_;clear H;intro w H;refine K8 _ _ ?_;clear K8;refine kP H (SR fun _ K9=>Rm rfl (Rf Qd rfl ?_));clear H;intro a H;refine bP fH (cs:=[_,_,_,_,_]) H wn rfl rfl (H.hp.dx 0 rfl rfl) rfl ?_;clear H;intro a H;refine kX H wn rfl rfl (hf _ _ hgm H.ro l[k].head _ _ _ hhd (by omega)) rfl ?_;clear H;rintro v25 FV a w hd25 oU H;obtain ⟨q1,q2,q3,q4,q5,q6,q7,q8,q9,rfl,atJ⟩:=hd25.ans;refine kH H (Rm rfl ?_);clear H;intro a H;(iterate 2 refine mg H wn rfl rfl rfl ?_;clear H;intro a H);refine dO fH H wn rfl ?_;clear H;intro b8 a w HV H;refine bC fH 0 (vs:=[_,_,_,_,_]) H wn rfl ?_;clear H;intro w H;refine kH H (aj K9 rfl (SQ fun _ aW=>SR fun _ bM=>Rm rfl (Rn rfl (Kz bM (Cd rfl ?_ ?_))))) <;> clear H K9 bM
  ·intro gW a H
   try have p29:=dT gW
   have hone:oL acc rej l[k]=[]:=by rw [hce,aG (by simpa using gW)]
   have qQ:=oU;refine dP ?_;refine K7 _ _ ?_;clear K7;refine kP H (SC (Rd rfl (Rm rfl ?_)));clear H;intro a H;refine aD ?_;refine dG ((k+1,v,xs,Lo,_)) (by exact (H.eD (Pl:=[_,_]) (dN:=[]) [] (by decide) rfl).sub ⟨rfl,rfl,rfl,rfl,rfl,aB⟩) ?_
   (try dsimp only);exact aaY
  intro gW a H
  try have p29:=dF gW
  have H9:¬ lS acc rej l[k].head:=by simpa using gW
  rw [av H9] at hce;obtain ⟨cA',cc',hcs,atm,aB9,hgc⟩:=hcl.slice
  injection hcs with e1 e2 e3
  rw [bQ] at e2 atm;subst e1 e2 e3;have aCa:=IY l[k].cells;refine kP H (Kc aW (SR fun _ bU=>aj bU rfl (SQ fun _ bY=>SR fun _ cZ=>bq zN Ad 1 rfl rfl (Rl qH rfl (Rm rfl (Kz cZ (SB ?_)))))));clear H aW bU cZ;intro a H;skip;refine eX (ι:=Nat × ah × List ah × OL × GH) (Tc:=[(0,_),(5,_),(8,_),(15,_),(16,_),(17,_),(31,_),(32,_)]) (Lc:=[(_,_),(_,_)]) (fun gh=>[(10,gh.2.1),(33,vi gh.1)]) (fun gh=>[]++(Lo++gh.2.2.2.1)) (fun gh=>gh.2.2.2.2) (fun gh=>gh.1<=l[k].cells.length∧cu 76 7 gh.2.1 (gD acc rej (l[k].cells.take gh.1)).length gh.2.2.1 gh.2.2.2.1∧bZ gh.2.2.2.2 7 ((gD acc rej (l[k].cells.take gh.1)).map aV.dat) gh.2.2.1∧(∀ b o,FV b=some o->gh.2.2.2.2 b=some o)) (fun gh=>l[k].cells.length - gh.1) ((0,.slice none 0 0,[],[],FV)) (by exact (H.NQ (A:=[_,_])).sub ⟨rfl,rfl,rfl,rfl,rfl,rfl,rfl,rfl,rfl,rfl,aB⟩) ?_ ?_
  ·exact Jz
  clear H;rintro ⟨i,v2,xs2,Lc,g2⟩ a w hI H;dsimp only at hI H;obtain ⟨hi,hrw2,zR,iF⟩:=hI;have hrl2:=YA (acc:=acc) (rej:=rej) (l[k].cells.take i);rw [List.length_take] at hrl2;obtain ⟨Oj,Ol,rfl,-,-⟩:=hrw2.shape;dsimp only [lca,bJ] at H;refine kP H (SR fun _ dQ=>Rc rfl (Kz dQ (SQ fun _ dR=>Cd rfl ?_ ?_))) <;> clear H dQ
  ·intro fq a H
   try have p34:=dT fq
   have hi2:i < l[k].cells.length:=by omega
   obtain ⟨b2_,o2_,aA,an,ac,gA,gn,gc,uA,un,uc,wA,wn_,wc,rfl,hrow2,Xc,Qx⟩:=JJ hi2 hgc;have hgx:∀ b o,g b=some o->g2 b=some o:=fun b o h=>iF b o (oU b o h);replace hrow2:=fun j u hj=>aF hgx (hrow2 j u hj);replace Xc:=Xc.mono hgx;replace Qx:=Qx.mono hgx;have hzc:=Oq hi2;have agn:=aje (acc:=acc) (rej:=rej) l[k].cells[i];refine kP H (Kc dR (SQ fun _ dK=>SB (SR fun _ dX=>Ri qH lg rfl rfl ?_)));clear H dR;intro a H;refine bP lg (cs:=[_,_,_,_,_,_,_]) H wn rfl rfl (fun j v hj=>H.hp.aH (hrow2 j v hj)) rfl ?_;clear H;intro a H;refine dO lg H wn rfl ?_;clear H;intro b12 a w Hy H;refine bC lg 0 (vs:=[_,_,_,_,_,_,_]) H wn rfl ?_;clear H;intro w H;refine dX _ _ ?_;clear dX;refine kP H (SR fun _ fM=>Rm rfl (Rf Qe rfl ?_));clear H;intro a H;refine bP fH (cs:=[_,_,_,_,_]) H wn rfl rfl (H.hp.dx 0 rfl rfl) rfl ?_;clear H;intro a H;refine kX H wn rfl rfl (hf _ _ (fun b o h=>hgx b o (hgm b o h)) H.ro l[k].cells[i].head _ _ _ Xc (by omega)) rfl ?_;clear H;rintro v41 FY a w att wL H;obtain ⟨r1,r2,r3,r4,r5,r6,r7,r8,r9,rfl,atK⟩:=att.ans;refine kH H (Rm rfl ?_);clear H;intro a H;(iterate 2 refine mg H wn rfl rfl rfl ?_;clear H;intro a H);refine dO fH H wn rfl ?_;clear H;intro b13 a w Qo H;refine bC fH 0 (vs:=[_,_,_,_,_]) H wn rfl ?_;clear H;intro w H;refine kH H (aj fM rfl (SR fun _ eP=>Rm rfl (Kz eP (Cd rfl ?_ ?_)))) <;> clear H fM eP
   ·intro rF a H
    try have p44:=dT rF
    have agP:¬ lS acc rej l[k].cells[i].head:=by simpa using rF
    have Nk:oV acc rej l[k].cells[i]=[.mk l[k].cells[i].id (eU acc rej l[k].cells[i].head) (dS acc rej l[k].cells[i].flow)]:=by rw [agn,av agP,eU,av agP]
    have QH:Jd (fun (aK:Nat->ah × OL) (bT:Nat) (v:ah) (G:GH)=>match bT with|0=>v=.slice Oj (gD acc rej (l[k].cells.take i)).length Ol|1=>v=(aJ b12 0)|2=>v=vi l[k].cells[i].id|3=>v=.agg #[.slice r1 r2 r3,vi (eU acc rej l[k].cells[i].head).marks.ins,vi (eU acc rej l[k].cells[i].head).marks.move,.slice r4 r5 r6,.slice r7 r8 r9]|4=>v=fv|5=>v=(aJ b12 6)|6=>v=.slice wA wn_ wc|7=>au G (.sl 11 ((dS acc rej l[k].cells[i].flow).map ak.dat)) v|8=>∃ A n c,v=.agg #[vi l[k].cells[i].id,.slice r1 r2 r3,vi (eU acc rej l[k].cells[i].head).marks.ins,vi (eU acc rej l[k].cells[i].head).marks.move,.slice r4 r5 r6,.slice r7 r8 r9,.slice A n c]∧au G (.sl 11 ((dS acc rej l[k].cells[i].flow).map ak.dat)) (.slice A n c)|9=>∃ b A n c,v=.slice (some ⟨b,0,none⟩) 1 1∧aK 9=(.slice (some ⟨b,0,none⟩) 1 1,[(b,.cells #[vi l[k].cells[i].id,.slice r1 r2 r3,vi (eU acc rej l[k].cells[i].head).marks.ins,vi (eU acc rej l[k].cells[i].head).marks.move,.slice r4 r5 r6,.slice r7 r8 r9,.slice A n c] 76 (0,0))])∧au G (.sl 11 ((dS acc rej l[k].cells[i].flow).map ak.dat)) (.slice A n c)|_=>True):=by intro aK bT v G G' hm h;(iterate 12 (rcases bT with _|bT;(first|exact h|exact au.mono hm h|exact let ⟨A,n,c,h1,h2⟩:=h;⟨A,n,c,h1,h2.mono hm⟩|exact let ⟨b,A,n,c,h0,h1,h2⟩:=h;⟨b,A,n,c,h0,h1,h2.mono hm⟩)));exact trivial
    refine U4 [9] (hmx) [[],[],[1],[],[],[],[5],[4,5,6],ra 1 7,ra 1 8,ra 0 10,ra 0 11] [10,11] (by kernel_rfl) (by kernel_rfl) (by decide) (by kernel_rfl) (fun (aK:Nat->ah × OL) (bT:Nat) (v:ah) (G:GH)=>match bT with|0=>v=.slice Oj (gD acc rej (l[k].cells.take i)).length Ol|1=>v=(aJ b12 0)|2=>v=vi l[k].cells[i].id|3=>v=.agg #[.slice r1 r2 r3,vi (eU acc rej l[k].cells[i].head).marks.ins,vi (eU acc rej l[k].cells[i].head).marks.move,.slice r4 r5 r6,.slice r7 r8 r9]|4=>v=fv|5=>v=(aJ b12 6)|6=>v=.slice wA wn_ wc|7=>au G (.sl 11 ((dS acc rej l[k].cells[i].flow).map ak.dat)) v|8=>∃ A n c,v=.agg #[vi l[k].cells[i].id,.slice r1 r2 r3,vi (eU acc rej l[k].cells[i].head).marks.ins,vi (eU acc rej l[k].cells[i].head).marks.move,.slice r4 r5 r6,.slice r7 r8 r9,.slice A n c]∧au G (.sl 11 ((dS acc rej l[k].cells[i].flow).map ak.dat)) (.slice A n c)|9=>∃ b A n c,v=.slice (some ⟨b,0,none⟩) 1 1∧aK 9=(.slice (some ⟨b,0,none⟩) 1 1,[(b,.cells #[vi l[k].cells[i].id,.slice r1 r2 r3,vi (eU acc rej l[k].cells[i].head).marks.ins,vi (eU acc rej l[k].cells[i].head).marks.move,.slice r4 r5 r6,.slice r7 r8 r9,.slice A n c] 76 (0,0))])∧au G (.sl 11 ((dS acc rej l[k].cells[i].flow).map ak.dat)) (.slice A n c)|_=>True) (fun m hm x y i v G hi hc h=>by
     have hm:m=9:=by simpa using hm
     rcases hm with rfl
     ·(iterate 12 (rcases i with _|i;(first|exact h|exact absurd hi (by decide)|exact absurd hc (by decide))));exact trivial
     ) H ?_ ?_ ?_
    ·clear H;refine ay ?_ ?_ ?_ ?_ (ay ?_ ?_ ?_ ?_ (ay ?_ ?_ ?_ ?_ cK))
     ·exact abO
     ·intro aK dM bH a w G1 fF _ _ aO hc hG HT hv;have H:=HT;clear aO;have Hb:=H.full;have H:=Hb;clear hc;refine kH H (Rf MV rfl ?_);exact JC
     ·intro aK dM bH a w G1 fF _ _ aO hc hG HT hv;have H:=HT;clear aO;have H:=H.aM (hv 1 46 (hc 1 (by decide)) rfl) rfl;have Hb:=H.full;have H:=Hb;clear hc;refine qE aC H wn rfl (H.hp.zW (fF _ (gK _ eT)) rfl) rfl ?_;exact JC
     ·intro aK dM bH a w G1 fF _ _ aO hc hG HT hv;have H:=HT;clear aO;have Hb:=H.full;have H:=Hb;clear hc;refine bP fH (cs:=[.slice r1 r2 r3,vi (eU acc rej l[k].cells[i].head).marks.ins,vi (eU acc rej l[k].cells[i].head).marks.move,.slice r4 r5 r6,.slice r7 r8 r9]) H wn rfl rfl (fun j v hj=>H.hp.zW (fF _ eT) (by simpa using hj)) rfl ?_;exact JC
     ·exact abO
     ·intro aK dM bH a w G1 fF _ _ aO hc hG HT hv;have H:=HT;clear aO;have Hb:=H.full;have H:=Hb;clear hc;refine kH H (Rf GZ rfl ?_);exact JC
     ·intro aK dM bH a w G1 fF _ _ aO hc hG HT hv;have H:=HT;clear aO;have H:=H.aM (hv 5 50 (hc 5 (by decide)) rfl) rfl;have Hb:=H.full;have H:=Hb;clear hc;refine qE kC H wn rfl (H.hp.zW (fF _ (gK _ eT)) rfl) rfl ?_;exact JC
     ·intro aK dM bH a w G1 fF _ _ aO hc hG HT hv;have H:=HT;clear aO;have H:=H.aM (hv 4 49 (hc 4 (by decide)) rfl) rfl;have H:=H.aM (hv 6 51 (hc 6 (by decide)) rfl) rfl;have Hb:=H.full;have H:=Hb;clear hc;refine s_call VG H wn rfl (ih _ _ H.ro (hf.mono fun b o h=>hG b o (wL b o (hgx b o (hgm b o h)))) l[k].cells[i].flow _ (Qx.mono fun b o h=>hG b o (wL b o h)) (by omega)) rfl ?_;clear H;rintro v52 Tw a w Ic asu H;refine aD ⟨rfl,?_⟩;exact xJ (by kernel_rfl) (QH aK) rfl rfl HT Hb hG hv asu (Ic) H
     ·intro aK dM bH a w G1 fF _ _ aO hc hG HT hv;have H:=HT;clear aO;have H:=H.aM (hv 2 47 (hc 2 (by decide)) rfl) rfl;have H:=H.aM (hv 3 48 (hc 3 (by decide)) rfl) rfl;obtain ⟨u52,auY,Ic⟩:=hv 7 52 (hc 7 (by decide)) rfl;(try dsimp only at Ic);obtain ⟨FQ,n52,GQ,rfl⟩:=Ic.form;have H:=H.iI auY;have Hb:=H.full;have H:=Hb;clear hc;refine jD Y6 [_,_,_,_,_,_,_] H wn rfl rfl rfl rfl ?_;clear H;intro a H;refine aD ⟨rfl,?_⟩;exact xJ (by kernel_rfl) (QH aK) rfl rfl HT Hb hG hv (fun _ _ h=>h) (⟨_,_,_,rfl,Ic⟩) H
     ·exact xG
     ·exact Mf
     exact GL
    ·clear H;refine ay ?_ ?_ ?_ ?_ (ay ?_ ?_ ?_ ?_ (ay ?_ ?_ ?_ ?_ cK))
     ·intro hB;exact gL
     ·intro hB;exact gL
     ·intro hB;exact gL
     ·intro hB;exact gL
     ·intro hB;exact gL
     ·intro hB;exact gL
     ·intro hB;exact gL
     ·intro hB;exact gL
     ·intro hB;exact gL
     ·intro _ aK dM bH a w G1 fF _ hc hG HT hv;have H:=HT;obtain ⟨u53,ND,yV⟩:=hv (.bool false,[]) 8 53 (by decide) (hc 8 (by decide)) rfl;(try dsimp only at yV);obtain ⟨Aj,n53,c53,rfl,yV⟩:=yV;have H:=H.iI ND;have Hb:=H.full;have H:=Hb;clear hc;refine iT qH lg [_,_,_,_,_,_,_] [_,_,_,_,_,_,_] H wn rfl rfl rfl rfl rfl (by intro i q h;match i,h with|0,h=>exact h|n+1,h=>simp at h) rfl rfl ?_;clear H;intro Ch a w agm H;refine aD ⟨rfl,(.slice (some ⟨Ch,0,none⟩) 1 1,[(Ch,.cells #[vi l[k].cells[i].id,.slice r1 r2 r3,vi (eU acc rej l[k].cells[i].head).marks.ins,vi (eU acc rej l[k].cells[i].head).marks.move,.slice r4 r5 r6,.slice r7 r8 r9,.slice Aj n53 c53] 76 (0,0))]),?_⟩;exact xK (by kernel_rfl) (QH (mJ aK 9 (.slice (some ⟨Ch,0,none⟩) 1 1,[(Ch,.cells #[vi l[k].cells[i].id,.slice r1 r2 r3,vi (eU acc rej l[k].cells[i].head).marks.ins,vi (eU acc rej l[k].cells[i].head).marks.move,.slice r4 r5 r6,.slice r7 r8 r9,.slice Aj n53 c53] 76 (0,0))]))) rfl HT Hb hG (fun j e h1 h2 h3=>hv (.slice (some ⟨Ch,0,none⟩) 1 1,[(Ch,.cells #[vi l[k].cells[i].id,.slice r1 r2 r3,vi (eU acc rej l[k].cells[i].head).marks.ins,vi (eU acc rej l[k].cells[i].head).marks.move,.slice r4 r5 r6,.slice r7 r8 r9,.slice Aj n53 c53] 76 (0,0))]) j e h1 h2 h3) (fun _ _ h=>h) (⟨Ch,Aj,n53,c53,rfl,rfl,yV⟩) H
     ·intro hB;exact gL
     intro hB;exact gL
    clear H;intro aK a w G M0 H hv
    simp only [iM,List.flatMap_cons,List.flatMap_nil,cond_true,ig,iZ] at H
    have H:=H.aM (hv 0 45 rfl rfl) rfl;obtain ⟨u54,auZ,agX⟩:=hv 9 54 (by decide) rfl;(try dsimp only at agX);obtain ⟨Ch,FQ,n52,GQ,rfl,e54,Ic⟩:=agX;have H:=H.iI auZ;clear hv;rw [e54] at H;dsimp only [lca,bJ] at H;have ahe:aY G (aV.dat (.mk l[k].cells[i].id (eU acc rej l[k].cells[i].head) (dS acc rej l[k].cells[i].flow))) [vi l[k].cells[i].id,.slice r1 r2 r3,vi (eU acc rej l[k].cells[i].head).marks.ins,vi (eU acc rej l[k].cells[i].head).marks.move,.slice r4 r5 r6,.slice r7 r8 r9,.slice FQ n52 GQ]:=aY.Rj (x:=.mk l[k].cells[i].id (eU acc rej l[k].cells[i].head) (dS acc rej l[k].cells[i].flow)) (atK.mono M0) Ic;refine oh (Li:=[_,_,_,_,_]++Lo) (Lo:=Lc) (news:=[vi l[k].cells[i].id,.slice r1 r2 r3,vi (eU acc rej l[k].cells[i].head).marks.ins,vi (eU acc rej l[k].cells[i].head).marks.move,.slice r4 r5 r6,.slice r7 r8 r9,.slice FQ n52 GQ]) qH lg rfl rfl (St.un (A:=[_,_,_,_,_]) H) wn rfl rfl hrw2 rfl (H.hp.dx 0 rfl rfl) ahe.one (by omega) (by omega) rfl ?_;clear H;intro v55 akZ a w auF H;have H:=H.assoc;dsimp only [lca,bJ] at H;refine kH H (Ra rfl ?_);clear H;intro a H;refine aD ⟨rfl,?_⟩;refine dK _ _ ?_;clear dK;refine kP H (SC (Rd rfl (Rm rfl ?_)));clear H;intro a H;refine aD ?_;refine dG ((i+1,v55,xs2++[vi l[k].cells[i].id,.slice r1 r2 r3,vi (eU acc rej l[k].cells[i].head).marks.ins,vi (eU acc rej l[k].cells[i].head).marks.move,.slice r4 r5 r6,.slice r7 r8 r9,.slice FQ n52 GQ],akZ,_)) (by exact (H.eD (Pl:=[_,_,_,_,_]) (dN:=[_,_]) [3,4] (by decide) rfl).sub ⟨rfl,rfl,rfl,rfl,rfl,rfl,rfl,rfl,rfl,rfl,aB⟩) ?_
    (try dsimp only);exact ⟨by omega,by rw [R6 hi2,Nk,iw];exact auF,by rw [R6 hi2,Nk,kF];exact (zR.mono fun b o h=>M0 b o (wL b o h)).snoc ahe rfl,fun b o h=>M0 b o (wL b o (iF b o h))⟩
   intro rF a H
   try have p44:=dF rF
   have Nk:oV acc rej l[k].cells[i]=[]:=by rw [agn,aG (by simpa using rF)]
   refine kP H (Kc dK (SC (Rd rfl (Rm rfl ?_))));clear H dK;intro a H;refine aD ?_;refine dG ((i+1,_,xs2,Lc,_)) (by exact (H.eD (Pl:=[_,_,_,_]) (dN:=[_,_]) [2,3] (by decide) rfl).sub ⟨rfl,rfl,rfl,rfl,rfl,rfl,rfl,rfl,rfl,rfl,aB⟩) ?_
   (try dsimp only);exact ⟨by omega,by rw [R6 hi2,Nk,ig];exact hrw2,by rw [R6 hi2,Nk,ig];exact zR.mono wL,fun b o h=>wL b o (iF b o h)⟩
  intro fq a H
  try have p34:=dF fq
  obtain rfl:i=l[k].cells.length:=by omega
  rw [zC] at hrw2 zR hrl2 H;have H:=H.un (A:=[_,_]);obtain ⟨Gr,hmr,hrep,H⟩:=St.qp (Li:=[_,_]++Lo) H hrw2 (rows:=(gD acc rej l[k].cells).map aV.dat) (by simp) zR;have qQ:∀ b o,g b=some o->Gr b=some o:=fun b o h=>hmr b o (iF b o (oU b o h));dsimp only [lca,bJ] at H;refine dP ?_;refine bY _ _ ?_;clear bY;refine kP H (SR fun _ gB=>Rm rfl (Rl qH rfl (Rc rfl (Kz gB (Cd rfl ?_ ?_))))) <;> clear H gB
  ·intro iQ a H
   try have p59:=dT iQ
   have hone:oL acc rej l[k]=[.mk (eU acc rej l[k].head) (gD acc rej l[k].cells)]:=by rw [hce,dw,eU,av H9]
   have ahf:aY Gr (aS.dat (.mk (eU acc rej l[k].head) (gD acc rej l[k].cells))) [.slice q1 q2 q3,vi (eU acc rej l[k].head).marks.ins,vi (eU acc rej l[k].head).marks.move,.slice q4 q5 q6,.slice q7 q8 q9,.slice Oj (gD acc rej l[k].cells).length Ol]:=aY.Rp (x:=.mk (eU acc rej l[k].head) (gD acc rej l[k].cells)) (atJ.mono fun b o h=>hmr b o (iF b o h)) hrep;refine kP H (SC (Rm rfl ?_));clear H;intro a H;refine bP fH (cs:=[_,_,_,_,_]) H wn rfl rfl (H.hp.dx 0 rfl rfl) rfl ?_;clear H;intro a H;refine kH H (Rm rfl ?_);clear H;intro a H;refine jD Y5 [_,_,_,_,_,_] H wn rfl rfl rfl rfl ?_;clear H;intro a H;refine iT nP jV [_,_,_,_,_,_] [_,_,_,_,_,_] H wn rfl rfl rfl rfl rfl (by intro i q h;match i,h with|0,h=>exact h|n+1,h=>simp at h) rfl rfl ?_;clear H;intro b64 a w aB4 H;refine oh (Li:=[_,_,_]) (Lo:=Lo) (news:=[.slice q1 q2 q3,vi (eU acc rej l[k].head).marks.ins,vi (eU acc rej l[k].head).marks.move,.slice q4 q5 q6,.slice q7 q8 q9,.slice Oj (gD acc rej l[k].cells).length Ol]) nP jV rfl rfl H wn rfl rfl hrw rfl (H.hp.dx 0 rfl rfl) ahf.one (by omega) (by omega) rfl ?_;clear H;intro v65 alg a w auH H;refine kH H (aX K7 rfl (SC (Rd rfl (Rm rfl ?_))));clear H K7;intro a H;refine aD ?_;refine dG ((k+1,v65,xs++[.slice q1 q2 q3,vi (eU acc rej l[k].head).marks.ins,vi (eU acc rej l[k].head).marks.move,.slice q4 q5 q6,.slice q7 q8 q9,.slice Oj (gD acc rej l[k].cells).length Ol],alg,_)) (by exact (H.eD (Pl:=[_,_,_]) (dN:=[]) [] (by decide) rfl).sub ⟨rfl,rfl,rfl,rfl,rfl,aB⟩) ?_
   (try dsimp only);exact ⟨by omega,by rw [Sb hk2,hone,iw];exact auH,by rw [Sb hk2,hone,kF];exact (fG.mono qQ).snoc ahf rfl,fun b o h=>qQ b o (hgm b o h)⟩
  intro iQ a H
  try have p59:=dF iQ
  have hone:oL acc rej l[k]=[]:=by rw [hce,mQ]
  refine kP H (Kc K7 (SC (Rd rfl (Rm rfl ?_))));clear H K7;intro a H;refine aD ?_;refine dG ((k+1,v,xs,Lo,_)) (by exact (H.eD (Pl:=[_,_]) (dN:=[]) [] (by decide) rfl).sub ⟨rfl,rfl,rfl,rfl,rfl,aB⟩) ?_
  (try dsimp only);exact aaY
 intro h18 a H
 try have Ef:=dF h18
 obtain rfl:k=l.length:=by omega
 rw [zC] at hrw fG;refine dP ?_;refine K3 _ _ ?_;clear K3;refine kP H (SR fun _ iH=>Rm rfl (aj iH rfl ?_));clear H iH;intro a H;refine eO ?_;obtain ⟨G',hm,Ih,H⟩:=H.qp (Li:=[]) hrw (rows:=(gN acc rej l).map aS.dat) (by simp) fG;refine lv H results165 rfl ?_;exact H.rt Ih
set_option maxHeartbeats 4000000 in
theorem ayH {fv:ah} {n:Nat} (ih:OW fv acc rej n) (hn:n<=536870912):OW fv acc rej (n+1):=by
 intro G w0 hG hf l v hv hz;obtain ⟨A,c,rfl,hc1,hc2,hg⟩:=hv.slice
 have hml:4294967297<=maxLen:=by decide
 have hll:=FN l;rw [bQ] at *;refine eN [(0,_),(1,_)] func98 rfl ntmps98 rfl rfl hG ?_;intro a H;refine kP H (SR fun _ K1=>aj K1 rfl (SR fun _ K2=>aj K2 rfl (SQ fun _ K3=>SR fun _ K4=>Rm rfl (Rl jq rfl (Rm rfl (Kz K4 (SB ?_)))))));clear H K1 K2 K4;intro a H;skip;refine eX (ι:=Nat × ah × List ah × OL × GH) (Tc:=[(0,_),(10,_),(11,_)]) (Lc:=[]) (fun gh=>[(5,gh.2.1),(12,vi gh.1)]) (fun gh=>[]++gh.2.2.2.1) (fun gh=>gh.2.2.2.2) (fun gh=>gh.1<=l.length∧cu 68 11 gh.2.1 (dS acc rej (l.take gh.1)).length gh.2.2.1 gh.2.2.2.1∧bZ gh.2.2.2.2 11 ((dS acc rej (l.take gh.1)).map ak.dat) gh.2.2.1∧(∀ b o,G b=some o->gh.2.2.2.2 b=some o)) (fun gh=>l.length - gh.1) ((0,.slice none 0 0,[],[],G)) (by exact H.sub ⟨rfl,rfl,rfl,rfl,rfl,aB⟩) ?_ ?_
 ·exact Jz
 clear H;rintro ⟨k,v,xs,Lo,g⟩ a w hI H;dsimp only at hI H;obtain ⟨hk,hrw,fG,hgm⟩:=hI;have hrl:=ajh (acc:=acc) (rej:=rej) (l.take k);rw [List.length_take] at hrl;dsimp only [lca,bJ] at H;refine kP H (SR fun _ K5=>Rc rfl (Kz K5 (SQ fun _ K6=>Cd rfl ?_ ?_))) <;> clear H K5
 ·intro gQ a H
  try have sw:=dT gQ
  have hk2:k < l.length:=by omega
  obtain ⟨b_,o_,pA,pn,pc,dA,dn,dc,yA,yn,yc,fA,fn,fc,rA,rn,rc,rfl,hrow,hhd,hfl,hrs⟩:=DF hk2 hg;replace hrow:=fun j u hj=>aF hgm (hrow j u hj);replace hhd:=hhd.mono hgm;replace hfl:=hfl.mono hgm;replace hrs:=hrs.mono hgm;have hzi:=Ot hk2;have hce:=R8 (acc:=acc) (rej:=rej) l[k];refine kP H (Kc K6 (SQ fun _ K7=>SB (SR fun _ K8=>Ri jq gq rfl rfl ?_)));clear H K6;intro a H;refine bP gq (cs:=[_,_,_,_,_,_,_,_,_,_,_]) H wn rfl rfl (fun j v hj=>H.hp.aH (hrow j v hj)) rfl ?_;clear H;intro a H;refine dO gq H wn rfl ?_;clear H;intro b7 a w AZ H;refine bC gq 0 (vs:=[_,_,_,_,_,_,_,_,_,_,_]) H wn rfl ?_;clear H;intro w H;refine K8 _ _ ?_;clear K8;refine kP H (SR fun _ K9=>Rm rfl (Rf yN rfl ?_));clear H;intro a H;refine bP fH (cs:=[_,_,_,_,_]) H wn rfl rfl (H.hp.dx 0 rfl rfl) rfl ?_;clear H;intro a H;refine kX H wn rfl rfl (hf _ _ hgm H.ro l[k].head _ _ _ hhd (by omega)) rfl ?_;clear H;rintro v20 FU a w atr rG H;obtain ⟨q1,q2,q3,q4,q5,q6,q7,q8,q9,rfl,Xb⟩:=atr.ans;refine kH H (Rm rfl ?_);clear H;intro a H;(iterate 2 refine mg H wn rfl rfl rfl ?_;clear H;intro a H);refine dO fH H wn rfl ?_;clear H;intro b8 a w HV H;refine bC fH 0 (vs:=[_,_,_,_,_]) H wn rfl ?_;clear H;intro w H;refine kH H (aj K9 rfl (SQ fun _ aW=>SR fun _ bM=>Rm rfl (Rn rfl (Kz bM (Cd rfl ?_ ?_))))) <;> clear H K9 bM
  ·intro fC a H
   try have mR:=dT fC
   have hone:mU acc rej l[k]=[]:=by rw [hce,aG (by simpa using fC)]
   refine dP ?_;refine K7 _ _ ?_;clear K7;refine kP H (SC (Rd rfl (Rm rfl ?_)));clear H;intro a H;refine aD ?_;refine dG ((k+1,v,xs,Lo,_)) (by exact (H.eD (Pl:=[_,_]) (dN:=[]) [] (by decide) rfl).sub ⟨rfl,rfl,rfl,rfl,rfl,aB⟩) ?_
   (try dsimp only);exact ⟨by omega,by rw [KT hk2,hone,ig];exact hrw,by rw [KT hk2,hone,ig];exact fG.mono rG,fun b o h=>rG b o (hgm b o h)⟩
  intro fC a H
  try have mR:=dF fC
  have H9:¬ lS acc rej l[k].head:=by simpa using fC
  rw [av H9] at hce;have han:eU acc rej l[k].head=iE acc rej l[k].head:=av H9;refine iB ?_;refine aW _ _ ?_;clear aW;refine cO (fun _ bU=>?_);refine bP fH (cs:=[_,_,_,_,_]) H wn rfl rfl (H.hp.dx 0 rfl rfl) rfl ?_;clear H;intro a H;refine kH H (Rf yN rfl ?_);clear H;intro a H;refine bC fH 1 (vs:=[_,_,_,_,_]) H wn rfl ?_;clear H;intro w H;refine bU _ _ ?_;clear bU;refine tT (ι:=ak × List ah × GH) (Tc:=[(0,_),(5,_),(7,_),(10,_),(11,_),(12,_)]) (Lc:=[(_,_)]) (fun gh=>[]) (fun gh=>[(b7,.cells gh.2.1.toArray 68 (0,0))]++Lo) (fun gh=>gh.2.2) (fun gh=>mU acc rej l[k]=[gh.1]∧aY gh.2.2 gh.1.dat gh.2.1∧(∀ b o,FU b=some o->gh.2.2 b=some o)) (by exact H.sub ⟨rfl,rfl,rfl,rfl,rfl,rfl,aB⟩) ?_ ?_
  ·skip;refine kP H (SR fun _ bY=>bq jF aC 1 rfl rfl (Kz bY (SB (SR fun _ cZ=>Rc rfl (aj cZ rfl (Cd rfl ?_ ?_)))))) <;> clear H bY cZ
   ·intro gW a H
    try have p29:=dT gW
    refine kP H (SC (Rm rfl (bq zM kC 1 rfl rfl ?_)));clear H;intro a H;refine s_call VG H wn rfl (ih _ _ H.ro (hf.mono fun b o h=>rG b o (hgm b o h)) l[k].flow _ (hfl.mono rG) (by omega)) rfl ?_;clear H;rintro v34 LG a w Fe zT H;obtain ⟨Es,n34,c34,rfl⟩:=Fe.form;refine kH H (Rf zM rfl ?_);clear H;intro a H;refine bC kC 1 (vs:=[_]) H wn rfl ?_;clear H;intro w H;refine aD ?_;refine ⟨(.mk l[k].kind l[k].code l[k].id l[k].text (eU acc rej l[k].head) (dS acc rej l[k].flow) l[k].rows,[vi l[k].kind,vi l[k].code,vi l[k].id,.string l[k].text,.slice q1 q2 q3,vi (eU acc rej l[k].head).marks.ins,vi (eU acc rej l[k].head).marks.move,.slice q4 q5 q6,.slice q7 q8 q9,.slice Es n34 c34,.slice rA rn rc],LG),by exact H.sub ⟨rfl,rfl,rfl,rfl,rfl,rfl,aB⟩,?_⟩;(try dsimp only);exact ⟨by rw [hce,aG p29,han],aY.mkItem (x:=.mk l[k].kind l[k].code l[k].id l[k].text (eU acc rej l[k].head) (dS acc rej l[k].flow) l[k].rows) (Xb.mono zT) Fe (hrs.mono fun b o h=>zT b o (rG b o h)),zT⟩
   intro gW a H
   try have p29:=dF gW
   refine kP H (SR fun _ dQ=>Rc rfl (aj dQ rfl (Cd rfl ?_ ?_))) <;> clear H dQ
   ·intro wI a H
    try have p36:=dT wI
    refine kP H (SR fun _ dR=>Rm rfl (bq tZ uy 1 rfl rfl ?_));clear H;intro a H;refine s_call apa H wn rfl (ayJ ih (by omega) _ _ H.ro (hf.mono fun b o h=>rG b o (hgm b o h)) l[k].rows _ (hrs.mono rG) (by omega)) rfl ?_;clear H;rintro v41 FY a w Xp wL H;obtain ⟨A41,n41,c41,rfl⟩:=Xp.form;have agN:=Xp.len;rw [bQ] at agN;subst agN;refine kH H (Rf tZ rfl ?_);clear H;intro a H;refine bC uy 1 (vs:=[_]) H wn rfl ?_;clear H;intro w H;refine dR _ _ ?_;clear dR;refine kP H (SR fun _ dK=>bq tZ uy 1 rfl rfl (Rl nP rfl (Rc rfl (Kz dK (Cd rfl ?_ ?_))))) <;> clear H dK
    ·intro h46 a H
     try have p46:=dT h46
     have hone:mU acc rej l[k]=[]:=by rw [hce,av p29,aG p36,mQ]
     refine dP ?_;refine K7 _ _ ?_;clear K7;refine kP H (SC (Rd rfl (Rm rfl ?_)));clear H;intro a H;refine aD ?_;refine dG ((k+1,v,xs,Lo,_)) (by exact (H.eD (Pl:=[_,_]) (dN:=[]) [] (by decide) rfl).sub ⟨rfl,rfl,rfl,rfl,rfl,aB⟩) ?_
     (try dsimp only);exact ⟨by omega,by rw [KT hk2,hone,ig];exact hrw,by rw [KT hk2,hone,ig];exact fG.mono fun b o h=>wL b o (rG b o h),fun b o h=>wL b o (rG b o (hgm b o h))⟩
    intro h46 a H
    try have p46:=dF h46
    refine iB ?_;refine ⟨(.mk l[k].kind l[k].code l[k].id l[k].text (eU acc rej l[k].head) l[k].flow (gN acc rej l[k].rows),[vi l[k].kind,vi l[k].code,vi l[k].id,.string l[k].text,.slice q1 q2 q3,vi (eU acc rej l[k].head).marks.ins,vi (eU acc rej l[k].head).marks.move,.slice q4 q5 q6,.slice q7 q8 q9,.slice fA fn fc,.slice A41 (gN acc rej l[k].rows).length c41],FY),by exact H.sub ⟨rfl,rfl,rfl,rfl,rfl,rfl,aB⟩,?_⟩;(try dsimp only);exact ⟨by rw [hce,av p29,aG p36,dw,han],aY.mkItem (x:=.mk l[k].kind l[k].code l[k].id l[k].text (eU acc rej l[k].head) l[k].flow (gN acc rej l[k].rows)) (Xb.mono wL) (hfl.mono fun b o h=>wL b o (rG b o h)) Xp,wL⟩
   intro wI a H
   try have p36:=dF wI
   refine iB ?_;refine ⟨(.mk l[k].kind l[k].code l[k].id l[k].text (eU acc rej l[k].head) l[k].flow l[k].rows,[vi l[k].kind,vi l[k].code,vi l[k].id,.string l[k].text,.slice q1 q2 q3,vi (eU acc rej l[k].head).marks.ins,vi (eU acc rej l[k].head).marks.move,.slice q4 q5 q6,.slice q7 q8 q9,.slice fA fn fc,.slice rA rn rc],_),by exact H.sub ⟨rfl,rfl,rfl,rfl,rfl,rfl,aB⟩,?_⟩;(try dsimp only);exact ⟨by rw [hce,av p29,av p36,han],aY.mkItem (x:=.mk l[k].kind l[k].code l[k].id l[k].text (eU acc rej l[k].head) l[k].flow l[k].rows) Xb (hfl.mono rG) (hrs.mono rG),fun _ _ h=>h⟩
  clear H;rintro ⟨y,cs9,g9⟩ a w hI H;dsimp only at hI H;obtain ⟨hone,Ns,Cv⟩:=hI;obtain ⟨e1,e2,e3,e4,e5,e6,e7,e8,e9,f1,f2,f3,f4,f5,f6,Qu,-,-,-⟩:=Ns.item;rw [Qu] at H;dsimp only [lca,bJ] at H;refine kP H (SC (Rm rfl ?_));clear H;intro a H;refine bP gq (cs:=[_,_,_,_,_,_,_,_,_,_,_]) H wn rfl rfl (H.hp.dx 1 rfl rfl) rfl ?_;clear H;intro a H;refine iT jq gq [_,_,_,_,_,_,_,_,_,_,_] [_,_,_,_,_,_,_,_,_,_,_] H wn rfl rfl rfl rfl rfl (by intro i q h;match i,h with|0,h=>exact h|n+1,h=>simp at h) rfl rfl ?_;clear H;intro b49 a w aB0 H;refine oh (Li:=[_,_,_]) (Lo:=Lo) (news:=cs9) jq gq rfl rfl H wn rfl rfl hrw (by rw [Qu];rfl) (by rw [Qu];exact H.hp.dx 0 rfl rfl) Ns.one (by omega) (by omega) rfl ?_;clear H;intro v50 ald a w auD H;refine kH H (aX K7 rfl (SC (Rd rfl (Rm rfl ?_))));clear H K7;intro a H;refine aD ?_;refine dG ((k+1,v50,xs++cs9,ald,_)) (by exact (H.eD (Pl:=[_,_,_]) (dN:=[]) [] (by decide) rfl).sub ⟨rfl,rfl,rfl,rfl,rfl,aB⟩) ?_
  (try dsimp only);exact ⟨by omega,by rw [KT hk2,hone,iw];exact auD,by rw [KT hk2,hone,kF];exact (fG.mono fun b o h=>Cv b o (rG b o h)).snoc Ns (by rw [Qu];rfl),fun b o h=>Cv b o (rG b o (hgm b o h))⟩
 intro gQ a H
 try have sw:=dF gQ
 obtain rfl:k=l.length:=by omega
 rw [zC] at hrw fG;refine dP ?_;refine K3 _ _ ?_;clear K3;refine kP H (SR fun _ dX=>Rm rfl (aj dX rfl ?_));clear H dX;intro a H;refine eO ?_;obtain ⟨G',hm,Ih,H⟩:=H.qp (Li:=[]) hrw (rows:=(dS acc rej l).map ak.dat) (by simp) fG;refine lv H results98 rfl ?_;exact H.rt Ih
theorem ajg {fv:ah}:∀ n:Nat,n<=536870913->OW fv acc rej n
 | 0,_=>fun _ _ _ _ _ _ _ h=>absurd h (by omega)
 | n+1,hn=>ayH (ajg n (by omega)) (by omega)
end
def Eu (A:List ak):Prop:=(∀ y∈A,¬ rD y)∧∀ o z y p,A=o++z :: y :: p->¬ pY z y
theorem ajB {A o p:List ak} {x z y:ak} (h:A++[x]=o++z :: y :: p):(p=[]∧A=o++[z]∧x=y)∨∃ p',p=p'++[x]∧A=o++z :: y :: p':=by
 rcases List.eq_nil_or_concat p with rfl|⟨p',w,rfl⟩
 ·have e:A++[x]=(o++[z])++[y]:=by rw [h];simp
  obtain ⟨e1,e2⟩:=List.append_inj' e rfl;exact .inl ⟨rfl,e1,by simpa using e2⟩
 have e:A++[x]=(o++z :: y :: p')++[w]:=by rw [h];simp
 obtain ⟨e1,e2⟩:=List.append_inj' e rfl
 have:x=w:=by simpa using e2
 exact .inr ⟨p',by rw [this,List.concat_eq_append],e1⟩
theorem adu {out:List ak} {y:ak} (h:Eu out):Eu (addN out y):=by
 by_cases hd:rD y
 ·rw [Jj hd];exact h
 by_cases hj:∃ o z,out=o++[z]∧pY z y
 ·obtain ⟨o,z,rfl,hz⟩:=hj;rw [Ca hd hz];refine ⟨fun x hx=>?_,fun o' z' y' p e=>?_⟩
  ·rcases jA.1 hx with hx|hx
   ·exact h.1 x (List.mem_append_left _ hx)
   rw [pG.1 hx];rintro (⟨h1,-⟩|⟨-,h2⟩)
   ·have:(mH z y).kind=1:=hz.2.1
    omega
   refine hd (.inr ⟨hz.1,?_⟩);rw [show (mH z y).text=z.text++y.text from rfl,ByteArray.size_append] at h2;omega
  rcases ajB e with ⟨rfl,e1,e2⟩|⟨p',rfl,e1⟩
  ·subst e2;refine fun hq=>h.2 o' z' z [] (by rw [e1];simp) ⟨hz.2.1,hq.2.1,hq.2.2⟩
  exact h.2 o' z' y' (p'++[z]) (by rw [e1];simp)
 have hn:∀ o z,out=o++[z]->¬ pY z y:=fun o z e hz=>hj ⟨o,z,e,hz⟩;rw [Dm hd hn];refine ⟨fun x hx=>?_,fun o' z' y' p e=>?_⟩
 ·rcases jA.1 hx with hx|hx
  ·exact h.1 x hx
  rw [pG.1 hx];exact hd
 rcases ajB e with ⟨rfl,e1,rfl⟩|⟨p',rfl,e1⟩
 ·exact hn _ _ e1
 exact h.2 o' z' y' p' e1
theorem adv:∀ (A out:List ak),Eu out->Eu (A.foldl addN out)
 | [],_,h=>h
 | y :: A,out,h=>adv A (addN out y) (adu h)
theorem adx:Eu []:=⟨fun _ h=>(by cases h),fun o z y p e=>by simp at e⟩
theorem adw:∀ (A B:List ak),Eu (A++B)->B.foldl addN A=A++B
 | A,[],_=>by simp
 | A,y :: B,h=>by
  have e:A++y :: B=(A++[y])++B:=by simp
  rw [List.foldl_cons,Dm (h.1 y (by simp)) fun o z e hz=>h.2 o z y B (by rw [e];simp) hz,adw (A++[y]) B (by rw [<- e];exact h),e]
theorem arF {z y:ak} (hz:nI z=z) (_:nI y=y) (_:pY z y):nI (mH z y)=mH z y:=by
 obtain ⟨k,c,i,tx,h,f,r⟩:=z;rw [nI] at hz
 injection hz with _ _ _ _ _ e1 e2
 show nI (.mk k c i (tx++y.text) h f r)=.mk k c i (tx++y.text) h f r
 rw [nI,e1,e2]
theorem VT {A:List ak} (h:∀ x∈A,nI x=x):(mI (A.foldl addN [])).foldl addN []=A.foldl addN []:=by
 have h1:=VX (Q:=fun x=>nI x=x) (fun z y hz hy hj=>arF hz hy hj) A [] h (fun _ h=>by cases h)
 have h2:mI (A.foldl addN [])=A.foldl addN []:=by
  rw [KI];exact (List.map_congr_left h1).trans (List.map_id' _)
 rw [h2];have h3:=adw [] (A.foldl addN []) (by rw [jR];exact adv A [] adx)
 rwa [jR] at h3
mutual
theorem awz:∀ x:ak,nI (nI x)=nI x
 | .mk k c i tx h f r=>by
  have hf:=Rw f;have hr:=Ye r;rw [nI,nI,VT hf,hr]
theorem awC:∀ x:aS,nR (nR x)=nR x
 | .mk h cs=>by
  have hc:=aij cs;rw [nR,nR,hc]
theorem awu:∀ x:aV,nC (nC x)=nC x
 | .mk i h f=>by
  have hf:=Rw f;rw [nC,nC,VT hf]
theorem Rw:∀ l:List ak,∀ x∈mI l,nI x=x
 | [],x,hx=>by rw [mI] at hx;cases hx
 | y :: l,x,hx=>by
  have h1:=awz y;have h2:=Rw l;rw [mI] at hx
  rcases fV.1 hx with rfl|hx
  ·exact h1
  exact h2 x hx
theorem Ye:∀ l:List aS,lH (lH l)=lH l
 | []=>by rw [lH,lH]
 | y :: l=>by rw [lH,lH,awC y,Ye l]
theorem aij:∀ l:List aV,lG (lG l)=lG l
 | []=>by rw [lG,lG]
 | y :: l=>by rw [lG,lG,awu y,aij l]
end
section
section
variable {N:Nat} {D:List Deferred} {w0:World} {F:Nat->Prop} {G0 G:GH} {L:OL} {T:List (Nat × ah)}
variable {r:Option Nat} {P:Program} {ops:Array Oper} {Q:Exit->Act->World->Prop} {rest:List Oper} {a:Act} {w:World}
variable {d:Nat} {ty:TypeId} {pos:String} {aN:Array Edge} {g:Option (Nat × Bool)}
end
end
def ahP:Go.Shelf.Ren:=⟨fun|7=>90|10=>150|n=>n,fun|0=>0|3=>4|4=>4|23=>131|26=>3|27=>165|28=>166|33=>137|n=>n,fun n=>n⟩
theorem ahO:Go.Proofs.SlLaysZI.n7 prog ahP where
 mixed:=by kernel_rfl
 f7:=⟨f90.name,by kernel_rfl,func90.trans (dh some (by kernel_rfl))⟩
 f10:=⟨f150.name,by kernel_rfl,func150.trans (dh some (by kernel_rfl))⟩
 t0:=underlying0
 a0:=isAgg0
 z0:=sizeOf0
 v0:=zeroValue0
 t4:=underlying4
 a4:=isAgg4
 z4:=sizeOf4
 v4:=zeroValue4
 t23:=underlying131
 a23:=isAgg131
 z23:=sizeOf131
 v23:=zeroValue131
 t26:=underlying3
 a26:=isAgg3
 z26:=sizeOf3
 v26:=zeroValue3
 t27:=underlying165
 a27:=isAgg165
 z27:=sizeOf165
 v27:=zeroValue165
 t28:=underlying166
 a28:=isAgg166
 z28:=sizeOf166
 v28:=zeroValue166
 t33:=underlying137
 a33:=isAgg137
 z33:=sizeOf137
 v33:=zeroValue137
def ajD:Go.Shelf.Ren:=⟨fun|6=>89|8=>149|9=>148|11=>209|n=>n,fun|0=>0|24=>41|26=>3|28=>166|33=>137|n=>n,fun n=>n⟩
theorem aAj:Go.Proofs.SlLaysZI.n6 prog ajD where
 mixed:=by kernel_rfl
 f6:=⟨f89.name,by kernel_rfl,func89.trans (dh some (by kernel_rfl))⟩
 f8:=⟨f149.name,by kernel_rfl,func149.trans (dh some (by kernel_rfl))⟩
 f11:=⟨f209.name,by kernel_rfl,func209.trans (dh some (by kernel_rfl))⟩
 t0:=underlying0
 a0:=isAgg0
 z0:=sizeOf0
 v0:=zeroValue0
 t24:=underlying41
 a24:=isAgg41
 z24:=sizeOf41
 v24:=zeroValue41
 t26:=underlying3
 a26:=isAgg3
 z26:=sizeOf3
 v26:=zeroValue3
 t28:=underlying166
 a28:=isAgg166
 z28:=sizeOf166
 v28:=zeroValue166
 i26:=by kernel_rfl
def aAi:Go.Shelf.Ren:=⟨fun|5=>148|7=>207|8=>208|10=>230|11=>231|12=>232|13=>233|14=>234|15=>235|16=>114|17=>236|18=>237|19=>238|20=>239|30=>255|31=>256|32=>257|33=>258|34=>259|35=>174|40=>269|n=>n,fun|0=>0|3=>3|4=>4|5=>5|9=>9|22=>41|23=>41|25=>3|32=>199|35=>301|36=>302|41=>114|44=>308|46=>310|53=>328|57=>180|63=>344|64=>345|n=>n,fun n=>n⟩
theorem ajC:Go.Proofs.SlLaysM.n5 prog aAi where
 mixed:=by kernel_rfl
 f5:=⟨f148.name,by kernel_rfl,func148.trans (dh some (by kernel_rfl))⟩
 f7:=⟨f207.name,by kernel_rfl,func207.trans (dh some (by kernel_rfl))⟩
 f8:=func208.trans (dh some (by kernel_rfl))
 f10:=⟨f230.name,by kernel_rfl,func230.trans (dh some (by kernel_rfl))⟩
 f11:=⟨f231.name,by kernel_rfl,func231.trans (dh some (by kernel_rfl))⟩
 f12:=⟨f232.name,by kernel_rfl,func232.trans (dh some (by kernel_rfl))⟩
 f13:=⟨f233.name,by kernel_rfl,func233.trans (dh some (by kernel_rfl))⟩
 f14:=⟨f234.name,by kernel_rfl,func234.trans (dh some (by kernel_rfl))⟩
 f15:=⟨f235.name,by kernel_rfl,func235.trans (dh some (by kernel_rfl))⟩
 f16:=⟨f114.name,by kernel_rfl,func114.trans (dh some (by kernel_rfl))⟩
 f17:=⟨f236.name,by kernel_rfl,func236.trans (dh some (by kernel_rfl))⟩
 f18:=⟨f237.name,by kernel_rfl,func237.trans (dh some (by kernel_rfl))⟩
 f19:=func238.trans (dh some (by kernel_rfl))
 f20:=func239.trans (dh some (by kernel_rfl))
 f30:=⟨f255.name,by kernel_rfl,func255.trans (dh some (by kernel_rfl))⟩
 f31:=func256.trans (dh some (by kernel_rfl))
 f32:=func257.trans (dh some (by kernel_rfl))
 f33:=⟨f258.name,by kernel_rfl,func258.trans (dh some (by kernel_rfl))⟩
 f34:=⟨f259.name,by kernel_rfl,func259.trans (dh some (by kernel_rfl))⟩
 f35:=⟨f174.name,by kernel_rfl,func174.trans (dh some (by kernel_rfl))⟩
 f40:=⟨f269.name,by kernel_rfl,func269.trans (dh some (by kernel_rfl))⟩
 t0:=underlying0
 a0:=isAgg0
 z0:=sizeOf0
 v0:=zeroValue0
 t3:=underlying3
 a3:=isAgg3
 z3:=sizeOf3
 v3:=zeroValue3
 t4:=underlying4
 a4:=isAgg4
 z4:=sizeOf4
 v4:=zeroValue4
 t5:=underlying5
 a5:=isAgg5
 z5:=sizeOf5
 v5:=zeroValue5
 t9:=underlying9
 a9:=isAgg9
 z9:=sizeOf9
 v9:=zeroValue9
 t22:=underlying41
 a22:=isAgg41
 z22:=sizeOf41
 v22:=zeroValue41
 t23:=underlying41
 a23:=isAgg41
 z23:=sizeOf41
 v23:=zeroValue41
 t25:=underlying3
 a25:=isAgg3
 z25:=sizeOf3
 v25:=zeroValue3
 t32:=underlying199
 a32:=isAgg199
 z32:=sizeOf199
 v32:=zeroValue199
 t35:=underlying301
 a35:=isAgg301
 z35:=sizeOf301
 v35:=zeroValue301
 t36:=underlying302
 a36:=isAgg302
 z36:=sizeOf302
 v36:=zeroValue302
 t41:=underlying114
 a41:=isAgg114
 z41:=sizeOf114
 v41:=zeroValue114
 t44:=underlying308
 a44:=isAgg308
 z44:=sizeOf308
 v44:=zeroValue308
 t46:=underlying310
 a46:=isAgg310
 z46:=sizeOf310
 v46:=zeroValue310
 t53:=underlying328
 a53:=isAgg328
 z53:=sizeOf328
 v53:=zeroValue328
 t57:=underlying180
 a57:=isAgg180
 z57:=sizeOf180
 v57:=zeroValue180
 t63:=underlying344
 a63:=isAgg344
 z63:=sizeOf344
 v63:=zeroValue344
 t64:=underlying345
 a64:=isAgg345
 z64:=sizeOf345
 v64:=zeroValue345
section
open Go.RowKit Go.Maps
theorem aoM:aQ 148:=aR func148 rfl
theorem aoO:aQ 150:=aR func150 rfl
theorem aul {G:GH} {w:World} (h:Hold G w) {b:Nat} (hb:w.heap.size<=b):G b=none:=by
 cases hg:G b with
 | none=>rfl
 | some o=>exact absurd (lt_of_heap (h b o hg)) (by omega)
theorem afe {G:GH} {w w':World} (h:Hold G w) (hb:Below w.heap.size w w') {b:Nat} {o:Obj} (hn:w.heap.size<=b) (ho:w'.heap[b]?=some o):Ext w.heap.size G (G.add b o) w':=by
 refine ⟨fun k o' hk=>GH.Jk G (aul h hn) k o' hk,fun k o' hk=>?_,fun k o' hk=>?_⟩
 ·unfold GH.add at hk
  split at hk
  ·rename_i e;exact .inr (e ▸ hn)
  exact .inl hk
 unfold GH.add at hk
 split at hk
 ·rename_i e;rw [e,ho,hk]
 exact (hb.block k (lt_of_heap (h k o' hk))).trans (h k o' hk)
theorem aif (G:GH) (w0:World) (hG:Hold G w0) (mb:Option Nat) :
  Calls prog 90 #[.map mb] w0 (bK w0 G fun u G'=>∃ bx,u=.func (.func 150) #[] #[(aJ bx 0)]∧G' bx=some (.cells #[.map mb] 131 (0,0))):=by
 have h:CallsIn Fence.wide 5 prog 90 #[.map mb] w0 fun e w'=>e=.returned (.func (.func 150) #[] #[(aJ w0.heap.size 0)])∧w'=w0.alloc (.cells #[.map mb] 131):=AnyZI.keys_in ahO Fence.wide 5 trivial rfl mb w0;refine ((callsIn_wide (n:=5)).1 h).mono ?_;rintro e w' ⟨rfl,rfl⟩;have hb:Below w0.heap.size w0 (w0.alloc (.cells #[.map mb] 131)):=(Below.refl _ w0).alloc (eu _) _;exact ⟨_,_,rfl,hb,afe hG hb (eu _) (show (w0.heap.push _)[w0.heap.size]?=_ by simp),_,rfl,GH.Jl _ _ _⟩
def IJ (_:ah):Option (DataW Unit × List MemPlace):=some (.nil,[])
theorem axl {w:World} {b clock:Nat} {es:Array MapEntry} {l:List Int} (hb:w.heap[b]?=some (.map es clock)) (hs:MapKept.Stamped es clock) (hk:es.toList.map (·.key)=l.map (Value.int .i64)) (hw:∀ k∈l,-9223372036854775808<=k∧k < 9223372036854775808) (hl:l.length<=4294967296) :
  ∃ D:DataW Unit,w.ownsMap prog 3 IJ b l.length D∧(intKeys D).Perm l∧Maps.size D=l.length:=by
 have hlen:es.size=l.length:=by
  have:=dh List.length hk
  simpa using this
 have hml:maxLen=9223372036854775807:=rfl
 have hr:∀ x∈es.toList,∃ k∈l,Go.WideElems.rd prog 3 IJ x=some (.int .i64 k,.nil):=by
  intro x hx
  have h1:x.key∈l.map (Value.int .i64):=by rw [<- hk];exact List.mem_map_of_mem hx
  obtain ⟨k,h2,h3⟩:=List.mem_map.1 h1;obtain ⟨h4,h5⟩:=hw k h2
  have hwf:(Lit.int .i64 k).wf=true:=by
   show (decide (IntKind.i64.min<=k) && decide (k<=IntKind.i64.max))=true
   rw [show IntKind.i64.min=-9223372036854775808 by decide,show IntKind.i64.max=9223372036854775807 by decide]
   simp;omega
  refine ⟨k,h2,?_⟩
  unfold Go.WideElems.rd
  rw [<- h3]
  have h6:keyOf prog 3 (.int .i64 k)=some (.int .i64 k):=by
   unfold keyOf mapKey
   rw [underlying3]
   simp [hwf]
  rw [h6]
  rfl
 refine ⟨_,⟨es,clock,hb,⟨by omega,hs,fun x hx=>?_⟩,by omega,rfl⟩,?_,?_⟩
 ·obtain ⟨k,-,h⟩:=hr x hx;exact ⟨_,h⟩
 ·show (((es.toList.map (Go.WideElems.rg prog 3 IJ)).foldr DataW.insert []).map fun p=>Go.intOf p.1).Perm l
  refine ((Go.WideShapes.sorted_perm _).map _).trans ?_;rw [List.map_map]
  have h1:es.toList.map ((fun p:Lit × DataW Unit=>Go.intOf p.1) ∘ Go.WideElems.rg prog 3 IJ)=l:=by
   have h2:es.toList.map ((fun p:Lit × DataW Unit=>Go.intOf p.1) ∘ Go.WideElems.rg prog 3 IJ)=(es.toList.map (·.key)).map fun v=>match v with|.int _ a=>a|_=>0:=by
    rw [List.map_map];refine List.map_congr_left fun x hx=>?_;obtain ⟨k,hkl,h⟩:=hr x hx
    obtain ⟨k',h3,h4⟩:∃ k',Go.WideElems.rd prog 3 IJ x=some (.int .i64 k',.nil)∧x.key=.int .i64 k':=by
     have h5:x.key∈l.map (Value.int .i64):=by rw [<- hk];exact List.mem_map_of_mem hx
     obtain ⟨k',h6,h7⟩:=List.mem_map.1 h5;refine ⟨k,h,?_⟩;have h8:=Go.WideElems.rd_key h;obtain ⟨z,h9,h10,-⟩:=Maps.keyOf_i64 underlying3 h8
     cases h10
     exact h9
    simp only [Function.comp,Go.WideElems.rg_of h3,h4,Go.intOf]
   rw [h2,hk,List.map_map]
   simp [Function.comp_def]
  rw [h1]
 show ((es.toList.map (Go.WideElems.rg prog 3 IJ)).foldr DataW.insert []).length=_
 rw [(Go.WideShapes.sorted_perm _).length_eq,bQ,vC,hlen]
theorem aAl (m:Nat):AnyZI.SortsIn prog ajD Fence.wide m :=
  ⟨fun blk off cap ss W hH hblk hsz=>callsIn_wide.2 (AnyM.slices_Sort_int ajC blk off cap ss W hH hblk hsz),
   fun p cap W=>callsIn_wide.2 (AnyM.slices_Sort_int_none ajC p cap W)⟩
def oZ (l:List Int):List Int:=l.mergeSort leI
theorem ajE (G:GH) (w0:World) (hG:Hold G w0) (b bx clock:Nat) (es:Array MapEntry) (l:List Int) (hbx:G bx=some (.cells #[.map (some b)] 131 (0,0))) (hb:w0.heap[b]?=some (.map es clock)) (hs:MapKept.Stamped es clock) (hk:es.toList.map (·.key)=l.map (Value.int .i64))
  (hw:∀ k∈l,-9223372036854775808<=k∧k < 9223372036854775808) (hl:l.length<=4294967296) :
  Calls prog 89 #[.func (.func 150) #[] #[(aJ bx 0)]] w0 (bK w0 G fun u G'=>au G' (.sl 1 ((oZ l).map fun k=>[li k])) u):=by
 obtain ⟨D0,hown,hperm,hsize⟩:=axl hb hs hk hw hl;have hml:maxLen=9223372036854775807:=rfl
 have hseq:SeqGives Fence.wide 2 prog 150 #[(aJ bx 0)] encZ (fun ss=>ss.Perm (intKeys D0)) (Maps.size D0) w0 :=
  AnyZI.keys_gives (ρ:=ahP) { ahO with } Fence.wide _ trivial rfl (by omega) bx b l.length D0 _ (lt_of_heap (hG _ _ hbx)) (by simp [World.cell?,hG _ _ hbx]) hown
 have cS:=AnyZI.sorted_in aAj Fence.wide 5 trivial trivial trivial trivial rfl (by omega) (aAl _) aoM 150 #[(aJ bx 0)] trivial aoO _ _ (by omega) (by omega) _ hseq
 change CallsIn _ _ prog 89 _ _ _ at cS
 refine ((callsIn_wide (n:=5)).1 cS).mono ?_;rintro e w' ⟨v,ss,rfl,hS,hrow,-,hbel⟩;have hS2:ss.mergeSort (fun x y=>decide (x<=y))=oZ l:=mergeSort_of_perm_i (hS.trans hperm);rw [hS2] at hrow
 have hlen:ss.length=(oZ l).length:=by rw [oZ,List.length_mergeSort,hS.length_eq,hperm.length_eq]
 have fG:∀ (G1:GH) (xs:List Int),bZ G1 1 (xs.map fun k=>[li k]) (xs.map encZ):=by
  intro G1 xs
  induction xs with
  | nil=>exact bZ.nil
  | cons x xs ih =>
   have h8:=((bZ.nil (G:=G1) (sz:=1)).snoc (q:=[li x]) (cs:=[encZ x]) (by simp [aY,au,li,Value.oneCell']) rfl).append ih
   simpa using h8
 rcases hrow.2 with ⟨rfl,hz⟩|⟨gb,cap,cur,rfl,hbase,hgb,r1,r2,r3,r4⟩
 ·refine ⟨_,G,rfl,hbel,⟨fun _ _ h=>h,fun _ _ h=>.inl h,fun k o hk=>(hbel.block k (lt_of_heap (hG k o hk))).trans (hG k o hk)⟩,?_⟩;rw [List.eq_nil_of_length_eq_zero (by omega:(oZ l).length=0)]
  simp only [au]
  exact aaF
 exact ⟨_,_,rfl,hbel,afe hG hbel hbase hgb,au.vV (GH.Jl G gb _) (by simp [hlen]) r1 r2 (by simpa using r4) (fG _ _)⟩
end
section
abbrev iX (l:List Int):List (Int × ah):=l.map fun q=>(q,.bool true)
theorem Sr (l:List Int):(iX l).map (·.1)=l:=by rw [List.map_map];simp [Function.comp_def]
theorem azH (l r:List Int):iX (l++r)=iX l++iX r:=kF
theorem Rh:∀ (i:Nat) (l:List (Int × ah)),(jl i l).map (·.key)=l.map fun x=>Value.int .i64 x.1
 | _,[]=>rfl
 | i,(k,v) :: r=>by rw [jl,eZ,eZ,Rh (i+1) r]
theorem X9:∀ (i:Nat) (l:List (Int × ah)),(jl i l).map (·.born)=List.range' i l.length
 | _,[]=>rfl
 | i,(k,v) :: r=>by rw [jl,eZ,X9 (i+1) r];rfl
theorem aib:∀ (i n:Nat) (l:List (Int × ah)),(jl i l)[n]?=(l[n]?).map fun x=>⟨.int .i64 x.1,x.2,i+n⟩
 | _,_,[]=>rfl
 | i,0,(k,v) :: r=>rfl
 | i,n+1,(k,v) :: r=>by rw [jl,List.getElem?_cons_succ,List.getElem?_cons_succ,aib (i+1) n r,show i+1+n=i+(n+1) by omega]
theorem aie {l:List (Int × ah)} (h:(l.map (·.1)).Nodup):MapKept.Stamped (jl 0 l).toArray l.length:=by
 refine ⟨fun x hx=>?_,?_,?_⟩
 ·have h1:=List.mem_map_of_mem (f:=(·.born)) hx
  rw [X9] at h1
  have:=List.mem_range'_1.1 h1
  omega
 ·show ((jl 0 l).map (·.born)).Nodup
  rw [X9];exact List.nodup_range'
 ·show ((jl 0 l).map (·.key)).Nodup
  rw [Rh,show (fun x:Int × ah=>Value.int .i64 x.1)=Value.int .i64 ∘ (·.1) from rfl,<- List.map_map]
  exact List.pairwise_map.2 (h.imp fun hne e=>hne (by injection e))
theorem VQ (x:Int):∀ (i j:Nat) (l:List Int),∃ an,Instr.findNow (.int .i64) (.int .i64 x) (jl i (iX l)) j=some an∧((x∈l∧∃ n,an=some (j+n,.bool true)∧l[n]?=some x)∨(x∉l∧an=none))
 | _,_,[]=>⟨none,rfl,.inr ⟨by simp,rfl⟩⟩
 | i,j,k :: r=>by
  by_cases e:k=x
  ·subst e
   exact ⟨some (j,.bool true),by simp only [iX,eZ,jl,Instr.findNow,Instr.sameNow,aG,beq_self_eq_true],.inl ⟨eT,0,rfl,rfl⟩⟩
  ·have hb:(x == k)=false:=by simp;exact fun h=>e h.symm
   obtain ⟨an,h1,h2⟩:=VQ x (i+1) (j+1) r
   refine ⟨an,by simpa only [iX,eZ,jl,Instr.findNow,Instr.sameNow,aG,hb] using h1,?_⟩
   rcases h2 with ⟨h3,n,h4,h5⟩|⟨h3,h4⟩
   ·exact .inl ⟨gK _ h3,n+1,by rw [h4,show j+1+n=j+(n+1) by omega],h5⟩
   ·exact .inr ⟨fun h=>(fV.1 h).elim (fun h=>e h.symm) h3,h4⟩
theorem Ya {α β:Type} (f:α->β):∀ (l:List α) (j:Nat),(l.eraseIdx j).map f=(l.map f).eraseIdx j
 | [],_=>rfl
 | x :: l,0=>rfl
 | x :: l,j+1=>by rw [List.eraseIdx_cons_succ,eZ,eZ,List.eraseIdx_cons_succ,Ya f l j]
def yB (l:List Int) (x:Int):List Int:=if x∈l then l else l++[x]
theorem alq {l:List Int} {x y:Int}:y∈yB l x↔y∈l∨y=x:=by
 unfold yB
 split
 ·rename_i h
  exact ⟨.inl,fun h2=>h2.elim id fun e=>e ▸ h⟩
 ·simp
theorem alr {l:List Int} {x:Int} (h:l.Nodup):(yB l x).Nodup:=by
 unfold yB
 split
 ·exact h
 ·rename_i hx
  exact List.nodup_append.2 ⟨h,List.pairwise_singleton _ _,fun a ha b hb e=>hx (by rw [pG] at hb;rw [<- hb,<- e];exact ha)⟩
section
variable {N:Nat} {D:List Deferred} {w0:World} {F:Nat->Prop} {G0 G:GH} {L:OL} {T:List (Nat × ah)}
variable {r:Option Nat} {P:Program} {ops:Array Oper} {Q:Exit->Act->World->Prop} {rest:List Oper} {a:Act} {w:World}
variable {d:Nat} {ty:TypeId} {pos:String} {aN:Array Edge} {g:Option (Nat × Bool)}
theorem YU {t kt et:TypeId} {x y z:Operand} {b i:Nat} {l:List Int} {ky:Int} (hm:P.underlying t=some (.map kt et)) (hk:P.underlying kt=some (.int .i64)) (H:St N D w0 F G0 G L T a w)
  (hw:Region.wanted ⟨none,.mapUpdate t x y z,ty,pos,aN,g⟩ (yielded ops a.tmps)=true) (hx:ev T x=some (.map (some b))) (hy:ev T y=some (.int .i64 ky)) (hzv:ev T z=some (.bool true)) (hi:L[i]?=some (b,fD (iX l)))
  (k:∀ w',St N D w0 F G0 G (L.set i (b,fD (iX (yB l ky)))) T a w'->WL r P ops Q rest a w'):WL r P ops Q (⟨none,.mapUpdate t x y z,ty,pos,aN,g⟩ :: rest) a w:=by
 obtain ⟨an,hf,han⟩:=VQ ky 0 0 l
 rcases han with ⟨hm2,n,rfl,hn⟩|⟨hm2,rfl⟩
 ·have hkey:MapKept.IsKey (.int .i64) (.int .i64 ky):=by trivial
  have hb:w.heap[b]?=some (.map (jl 0 (iX l)).toArray (iX l).length):=H.hp.own _ (lQ hi)
  have h1:=MapKept.run_checkKey (P:=P) (w:=w) hk hkey false 9999
  have h2:=MapKept.run_findKey (P:=P) (w:=w) (l:=(jl 0 (iX l)).toArray.toList) hk (by simpa using hf)
  have h3:=MapKept.run_keyThatStays (P:=P) (w:=w) hkey
  have hgn:(jl 0 (iX l))[n]?=some ⟨.int .i64 ky,.bool true,0+n⟩:=by
   rw [aib];unfold iX;rw [qL,hn];rfl
  have hg:((jl 0 (iX l)).toArray[n]?.map (·.key)).getD (.int .i64 ky)=.int .i64 ky:=by
   rw [List.getElem?_toArray,hgn];rfl
  have hmod:(jl 0 (iX l)).toArray.modify n (fun e=>{ e with key:=.int .i64 ky,val:=.bool true })=(jl 0 (iX l)).toArray:=by
   apply Array.ext_getElem?
   intro j
   rw [Array.getElem?_modify]
   by_cases hij:n=j
   ·subst hij
    rw [aG rfl,List.getElem?_toArray,hgn];rfl
   ·rw [av hij]
  have ha:yB l ky=l:=by unfold yB;rw [aG hm2]
  rw [ha] at k
  refine Zy (w':={ w with heap:=w.heap.setIfInBounds b (fD (iX l)) }) hw rfl ?_ (k _ (H.move (H.hp.upd hi (Zt hb))))
  show (execOp a.eval _).run P w=.ok _ { w with heap:=w.heap.setIfInBounds b (.map (jl 0 (iX l)).toArray (iX l).length) }
  generalize (jl 0 (iX l)).toArray=es at hb h2 hg hmod |-
  simp [execOp,Instr.mapUpdate,H.ev hx,H.ev hy,H.ev hzv,dZ,nO hm,MapKept.run_getObj_map hb,h1,h2,hg,h3,hmod,MapKept.run_setObj_map _ hb,Result.andThen]
 ·refine KV hm hk H hw hx hy hzv hi (KG (by rw [Sr];exact hm2)) fun w' H'=>k w' ?_
  have ha:yB l ky=l++[ky]:=by unfold yB;rw [av hm2]
  rw [ha,azH]
  exact H'
theorem azg {t kt et:TypeId} {x y:Operand} {b i:Nat} {l:List Int} {ky:Int} (hm:P.underlying t=some (.map kt et)) (hk:P.underlying kt=some (.int .i64)) (hnd:l.Nodup) (H:St N D w0 F G0 G L T a w)
  (hw:Region.wanted ⟨none,.call { callee:=.builtin .delete,args:=#[x,y],argTypes:=#[t,kt] },ty,pos,aN,g⟩ (yielded ops a.tmps)=true) (hx:ev T x=some (.map (some b))) (hy:ev T y=some (.int .i64 ky)) (hi:L[i]?=some (b,fD (iX l)))
  (k:∀ es clock w',MapKept.Stamped es clock->es.toList.map (·.key)=(l.filter fun q=>decide (q≠ky)).map (Value.int .i64)->St N D w0 F G0 G (L.set i (b,.map es clock)) T a w'->WL r P ops Q rest a w'):WL r P ops Q (⟨none,.call { callee:=.builtin .delete,args:=#[x,y],argTypes:=#[t,kt] },ty,pos,aN,g⟩ :: rest) a w:=by
 obtain ⟨an,hf,han⟩:=VQ ky 0 0 l
 have hkey:MapKept.IsKey (.int .i64) (.int .i64 ky):=by trivial
 have hb:w.heap[b]?=some (.map (jl 0 (iX l)).toArray (iX l).length):=H.hp.own _ (lQ hi)
 have hst:=aie (l:=iX l) (by rw [Sr];exact hnd)
 have hks:(jl 0 (iX l)).toArray.toList.map (·.key)=l.map (Value.int .i64):=by
  show (jl 0 (iX l)).map (·.key)=_
  rw [Rh,List.map_map];rfl
 have h2:=fun es':Array MapEntry=>Zt (o:=.map es' (iX l).length) hb
 have h3:=MapKept.run_findKey (P:=P) (w:=w) (l:=(jl 0 (iX l)).toArray.toList) hk (by simpa using hf)
 rcases han with ⟨hm2,n,rfl,hn⟩|⟨hm2,rfl⟩
 ·have hnl:n < l.length:=(jQ.1 hn).1
  have hln:l[n]=ky:=(jQ.1 hn).2
  have hsz:n < (jl 0 (iX l)).toArray.size:=by
   have:=dh List.length hks
   simp at this
   simp;omega
  have atF:((jl 0 (iX l)).toArray.eraseIdxIfInBounds n).toList=(jl 0 (iX l)).toArray.toList.eraseIdx n:=by
   unfold Array.eraseIdxIfInBounds
   rw [dif_pos hsz]
   simp
  refine fT (v:=.tuple #[]) (w':={ w with heap:=w.heap.setIfInBounds b (.map ((jl 0 (iX l)).toArray.eraseIdxIfInBounds n) (iX l).length) }) hw rfl ?_
   (k _ _ _ (MapKept.stamped_erase hst n) ?_ (H.move (H.hp.upd hi (h2 _))))
  ·generalize (jl 0 (iX l)).toArray=es at hb h3 |-
   have h1:=MapKept.run_checkKey (P:=P) (w:=w) hk hkey es.isEmpty 9999
   simp [execOp,resolve,invoke,builtin,Builtin.delete_,H.ev hx,H.ev hy,dZ,nO hm,MapKept.run_getObj_map hb,h1,h3,MapKept.run_setObj_map _ hb,Result.andThen]
  ·rw [atF,Ya,hks,<- Ya]
   congr 1
   have he:l.erase ky=l.eraseIdx n:=by
    have:=hnd.idxOf_getElem n hnl
    rw [hln] at this
    rw [<- this];exact List.erase_eq_eraseIdx_of_idxOf rfl
   rw [<- he,hnd.erase_eq_filter]
   exact List.filter_congr fun x _=>by by_cases h:x=ky <;> simp [h]
 ·refine fT (v:=.tuple #[]) (w':={ w with heap:=w.heap.setIfInBounds b (.map (jl 0 (iX l)).toArray (iX l).length) }) hw rfl ?_ (k _ _ _ hst ?_ (H.move (H.hp.upd hi (h2 _))))
  ·generalize (jl 0 (iX l)).toArray=es at hb h3 |-
   have h1:=MapKept.run_checkKey (P:=P) (w:=w) hk hkey es.isEmpty 9999
   simp [execOp,resolve,invoke,builtin,Builtin.delete_,H.ev hx,H.ev hy,dZ,nO hm,MapKept.run_getObj_map hb,h1,h3,MapKept.run_setObj_map _ hb,Result.andThen]
  ·rw [hks,List.filter_eq_self.2 fun x hx=>nT (show ¬ x=ky from fun e=>hm2 (e ▸ hx))]
end
end
theorem aqE:aQ 91:=aR func91 rfl
theorem afb:aQ 90:=aR func90 rfl
theorem afa:aQ 89:=aR func89 rfl
theorem aAk (G:GH) (w0:World) (hG:Hold G w0) (b bx:Nat) (l:List Int) (hbx:G bx=some (.cells #[.map (some b)] 131 (0,0))) (hb:w0.heap[b]?=some (fD (iX l))) (hn:l.Nodup) (hw:∀ k∈l,-9223372036854775808<=k∧k < 9223372036854775808) (hl:l.length<=4294967296) :
  Calls prog 89 #[.func (.func 150) #[] #[(aJ bx 0)]] w0 (bK w0 G fun u G'=>au G' (.sl 1 ((oZ l).map fun k=>[li k])) u) :=
 ajE G w0 hG b bx _ _ l hbx hb (aie (by rw [Sr];exact hn)) (by show (jl 0 (iX l)).map (·.key)=_;rw [Rh,List.map_map];rfl) hw hl
theorem awR {α:Type} {l:List α} (h:l.Nodup) {k:Nat} (hk:k < l.length):l[k]∉l.take k:=by
 intro hm;obtain ⟨i,hi,e⟩:=List.getElem_of_mem hm;rw [List.length_take] at hi;rw [List.getElem_take] at e;exact List.pairwise_iff_getElem.1 h i k (by omega) hk (by omega) e
theorem aej (G:GH) (w0:World) (hG:Hold G w0) (D:jO) (l:List ak) (hv:au G (.sl 11 (l.map ak.dat)) (cB D.f)) (hz:bO l<=4294967296) (hn:(eH l).Nodup) (hw:∀ k∈eH l,-9223372036854775808<=k∧k < 9223372036854775808) (hl:(eH l).length<=4294967296) :
  Calls prog 39 #[D.val] w0 (bK w0 G fun u G'=>au G' (.sl 1 ((oZ (eH l)).map fun k=>[li k])) u):=by
 refine eN [(0,_)] func39 rfl ntmps39 rfl rfl hG ?_;intro a H;refine cO (fun _ K1=>?_);refine dW (cs:=[_,_,_,_,_,_,_,_,_,_,_]) H wn rfl rfl rfl ?_;clear H;intro b1 a w hb1 H;refine kH H (aj K1 rfl (SR fun _ K2=>?_));clear H K1;intro a H;refine FD H wn rfl ?_;clear H;intro b5 a w hb5 H;refine dO rO H wn rfl ?_;clear H;intro b3 a w hb3 H;refine bC rO 0 (vs:=[_]) H wn rfl ?_;clear H;intro w H;refine K2 _ _ ?_;clear K2;refine bD (fun _ K3=>?_);refine cO (fun _ K4=>?_);refine bP jf (cs:=[_,_,_,_,_,_,_,_,_,_,_]) H wn rfl rfl (H.hp.dx 2 rfl rfl) rfl ?_;clear H;intro a H;refine s_call aqE H wn rfl (avp _ _ H.ro D l hv hz) rfl ?_;clear H;rintro v7 G7 a w ⟨bd,rfl,hit⟩ vQ H;refine K4 _ _ ?_;clear K4;refine Cj ?_;skip;refine U5 (ι:=Unit) (κ:=Empty) (Lc:=[(_,_),(_,_)]) (fun (k:Nat) (gh:Unit)=>[(b5,fD (iX ((eH l).take k)))]) (fun (k:Nat) (gh:Unit)=>[]) (fun (k:Nat) (gh:Unit) (g:GH)=>True) (fun x=>x.elim) (fun x=>x.elim) (fun x=>x.elim) (fun x=>x.elim) (()) (by exact H.eD (Pl:=[_,_,_]) (dN:=[_,_,_]) [0,2,1] (by decide) rfl) rfl aeA (hit) (fun _ _ h=>h) rfl (fun k args g h=>by obtain ⟨_,rfl⟩:=XJ h;rfl) (fun _ _ _ _ _ h=>h) (fun x=>x.elim) (trivial) ?_ ?_ ?_
 ·clear H;intro l3 Eh Ar bk k args gh G3 w3 F3 B3 a hk3 vP hI WQ Xj auR H;obtain ⟨hk,rfl⟩:=XJ hk3;dsimp only [zF,List.cons_append,List.nil_append] at H;refine kP H (SC (Ra rfl ?_));clear H;intro a H;refine aD ?_;refine WQ _ _ _ _ _ _ (by exact H) ?_;clear H;intro w H;refine kP H (SB (SC (Ro rO 1 rfl (Rm rfl ?_))));clear H;intro a H;refine KV (i:=3) yj mh H wn rfl rfl rfl rfl (KG (by rw [Sr];exact awR hn hk)) ?_;clear H;intro w H;dsimp only [List.set] at H;rw [show iX ((eH l).take k)++[((eH l)[k],Value.bool true)]=iX ((eH l).take (k+1)) from by rw [kg hk];unfold iX;rw [kF];rfl] at H;refine aD ?_;refine Xj (()) _ _ _ _ _ (by exact H) ?_
  trivial
 ·clear H;intro Dk3 gh Gd3 a w vP hI H;dsimp only [lca,bJ] at H;refine K3 _ _ ?_;clear K3;refine bD (fun _ K5=>?_);rw [nU (by simp)] at H;refine kP H (SC (Ro rO 1 rfl ?_));clear H;intro a H;refine s_call afb H wn rfl (aif _ _ H.ro _) rfl ?_;clear H;rintro v12 BM a w ⟨bx,rfl,hbx⟩ Cw H;refine s_call afa H wn rfl (aAk _ _ H.ro b5 bx _ hbx (H.hp.own (b5,fD (iX (eH l))) (by simp)) hn hw hl) rfl ?_;clear H;rintro v13 FT a w avg Ba H;refine kH H (aX K5 rfl ?_);clear H K5;intro a H;refine eO ?_;refine (NM H 0 rfl ?_).1;clear H;intro a w H;dsimp only [List.eraseIdx_cons_succ,List.eraseIdx_cons_zero] at H;refine lv H results39 rfl ?_;exact H.rt avg
 intro Dk x;exact x.elim
theorem aeZ:aQ 87:=aR func87 rfl
theorem aeU:aQ 38:=aR func38 rfl
def refs (h:dJ):List Int:=h.marks.ins :: (h.marks.bE.map gF.rev++h.marks.layers.map bS.rev)
def tO (K l:List Int):List Int:=l.foldl yB K
theorem OY (K l r:List Int):tO K (l++r)=tO (tO K l) r:=List.foldl_append
theorem OZ {l:List Int}:∀ {K:List Int} {y:Int},y∈tO K l↔y∈K∨y∈l:=by
 induction l with
 | nil=>intro K y;simp [tO]
 | cons x l ih =>
  intro K y
  show y∈tO (yB K x) l↔_
  rw [ih,alq,fV,or_assoc]
theorem aan {l:List Int}:∀ {K:List Int},K.Nodup->(tO K l).Nodup:=by
 induction l with
 | nil=>intro K h;exact h
 | cons x l ih=>intro K h;exact ih (alr h)
theorem als {K:List Int} {x:Int} {α:Type} {f:α->Int} {A:List α} {k:Nat} (hk:k < A.length):yB (tO K (x :: (A.take k).map f)) (f A[k])=tO K (x :: (A.take (k+1)).map f):=by
 rw [kg hk,kF,<- oD,OY];rfl
theorem alu {K B:List Int} {x:Int} {α:Type} {f:α->Int} {A:List α} {k:Nat} (hk:k < A.length):yB (tO K (x :: (B++(A.take k).map f))) (f A[k])=tO K (x :: (B++(A.take (k+1)).map f)):=by
 rw [kg hk,kF,show x :: (B++((A.take k).map f++[A[k]].map f))=(x :: (B++(A.take k).map f))++[f A[k]] from by simp,OY];rfl
abbrev C8 (b3 bm:Nat) (K:List Int):OL:=[(b3,.cells #[.map (some bm)] 131 (0,0)),(bm,fD (iX K))]
set_option maxHeartbeats 2000000 in
theorem aiz (G:GH) (w0:World) (b3 bm:Nat) (K:List Int) (h:dJ) (p d y:Option Addr × Nat × Nat) (hR:jy G h (cB p) (cB d) (cB y)) (hO:gH G (C8 b3 bm K) w0) :
  Calls prog 87 #[.agg #[cB p,vi h.marks.ins,vi h.marks.move,cB d,cB y],(aJ b3 0)] w0 (fU w0 G (C8 b3 bm K) fun _ G' L'=>L'=C8 b3 bm (tO K (refs h))):=by
 obtain ⟨dA,dn,dc⟩:=d;obtain ⟨yA,yn,yc⟩:=y;have hml:maxLen=9223372036854775807:=rfl;have hd:=hR.bE;have hy:=hR.layers;dsimp only [cB] at hd hy;have e1:=hd.len;have e2:=hy.len;rw [bQ] at e1 e2;subst e1 e2;obtain ⟨_,_,hu1,hd1,hd2,-⟩:=hd.slice;obtain ⟨_,_,hu2,hy1,hy2,-⟩:=hy.slice
 injection hu1 with q1 q2 q3
 subst q1 q3
 injection hu2 with q1 q2 q3
 subst q1 q3;rw [bQ] at hd1 hy1;refine jc (N:=35) (T:=[(0,_),(1,_)]) func87 rfl ntmps87 rfl rfl hO ?_;intro a H;refine cO (fun _ K1=>?_);refine dW (cs:=[_,_,_,_,_]) H wn rfl rfl rfl ?_;clear H;intro b2 a w hb2 H;refine K1 _ _ ?_;clear K1;refine kP H (SR fun _ K2=>Ro rO 1 rfl (Rf qo rfl (bq sP aC 0 rfl rfl ?_)));clear H;intro a H;refine YU (i:=2) yj mh H wn rfl rfl rfl rfl ?_;clear H;intro w H;dsimp only [List.set] at H;refine K2 _ _ ?_;clear K2;refine kP H (SQ fun _ K3=>SR fun _ K4=>Rf qo rfl (bq tY uw 0 rfl rfl (Rl oz rfl (Rm rfl (Kz K4 (SB ?_))))));clear H K4;intro a H;skip;refine eX (ι:=Nat) (Tc:=[(1,_),(2,_),(13,_),(14,_)]) (Lc:=[(_,_),(_,_)]) (fun gh=>[(15,vi gh)]) (fun gh=>[(bm,fD (iX (tO K (h.marks.ins :: (h.marks.bE.take gh).map gF.rev))))]) (fun gh=>G) (fun gh=>gh<=h.marks.bE.length) (fun gh=>h.marks.bE.length - gh) (0) (by exact H.sub ⟨rfl,rfl,rfl,rfl,rfl,aB⟩) ?_ ?_
 ·exact kE _
 clear H;intro i a w hI H;have hi:=hI;dsimp only [lca,bJ] at H;refine kP H (SR fun _ K5=>Rc rfl (Kz K5 (SQ fun _ K6=>Cd rfl ?_ ?_))) <;> clear H K5
 ·intro h16 a H
  try have p16:=dT h16
  have hi2:i < h.marks.bE.length:=by omega
  obtain ⟨b,o,rfl,hrow⟩:=PV hd hi2;refine kP H (Kc K6 (SQ fun _ K7=>SB (SR fun _ K8=>Ri oz om rfl rfl ?_)));clear H K6;intro a H;refine bP om (cs:=[_,_]) H wn rfl rfl (fun j v hj=>H.hp.aH (hrow j v hj)) rfl ?_;clear H;intro a H;refine dO om H wn rfl ?_;clear H;intro b4 a w hb4 H;refine bC om 0 (vs:=[_,_]) H wn rfl ?_;clear H;intro w H;refine K8 _ _ ?_;clear K8;refine kP H (SC (Ro rO 2 rfl (bq EJ aC 0 rfl rfl ?_)));clear H;intro a H;refine YU (i:=3) yj mh H wn rfl rfl rfl rfl ?_;clear H;intro w H;dsimp only [List.set] at H;rw [als hi2] at H;refine kH H (Kn K7 (SC (Rd rfl (Rm rfl ?_))));clear H K7;intro a H;refine aD ?_;refine dG (i+1) (by exact (H.eD (Pl:=[_,_,_,_]) (dN:=[_,_,_]) [1,2,3] (by decide) rfl).sub ⟨rfl,rfl,rfl,rfl,rfl,aB⟩) ?_
  omega
 intro h16 a H
 try have p16:=dF h16
 obtain rfl:i=h.marks.bE.length:=by omega
 rw [zC] at H;refine dP ?_;refine K3 _ _ ?_;clear K3;refine kP H (SR fun _ K9=>Rf qo rfl (bq Az BD 0 rfl rfl (Rl lK rfl (Rm rfl (Kz K9 (SB ?_))))));clear H K9;intro a H;skip;refine eX (ι:=Nat) (Tc:=[(1,_),(25,_),(26,_)]) (Lc:=[(_,_),(_,_)]) (fun gh=>[(27,vi gh)]) (fun gh=>[(bm,fD (iX (tO K (h.marks.ins :: (h.marks.bE.map gF.rev++(h.marks.layers.take gh).map bS.rev)))))]) (fun gh=>G) (fun gh=>gh<=h.marks.layers.length) (fun gh=>h.marks.layers.length - gh) (0) (by exact (by rw [List.take_zero,sM,ig];exact (H.sub ⟨rfl,rfl,rfl,rfl,aB⟩))) ?_ ?_
 ·exact kE _
 clear H;intro k a w hI H;have hk:=hI;dsimp only [lca,bJ] at H;refine kP H (SR fun _ aW=>Rc rfl (Kz aW (SQ fun _ bM=>Cd rfl ?_ ?_))) <;> clear H aW
 ·intro fZ a H
  try have p28:=dT fZ
  have hk2:k < h.marks.layers.length:=by omega
  obtain ⟨b,o,rfl,hrow⟩:=Fj hy hk2;refine kP H (Kc bM (SQ fun _ bU=>SB (SR fun _ bY=>Ri lK jN rfl rfl ?_)));clear H bM;intro a H;refine bP jN (cs:=[_,_,_,_]) H wn rfl rfl (fun j v hj=>H.hp.aH (hrow j v hj)) rfl ?_;clear H;intro a H;refine dO jN H wn rfl ?_;clear H;intro b6 a w hb6 H;refine bC jN 0 (vs:=[_,_,_,_]) H wn rfl ?_;clear H;intro w H;refine bY _ _ ?_;clear bY;refine kP H (SC (Ro rO 2 rfl (bq P7 aC 0 rfl rfl ?_)));clear H;intro a H;refine YU (i:=3) yj mh H wn rfl rfl rfl rfl ?_;clear H;intro w H;dsimp only [List.set] at H;rw [alu hk2] at H;refine kH H (Kn bU (SC (Rd rfl (Rm rfl ?_))));clear H bU;intro a H;refine aD ?_;refine dG (k+1) (by exact (H.eD (Pl:=[_,_,_,_]) (dN:=[_,_,_]) [1,2,3] (by decide) rfl).sub ⟨rfl,rfl,rfl,rfl,aB⟩) ?_
  omega
 intro fZ a H
 try have p28:=dF fZ
 obtain rfl:k=h.marks.layers.length:=by omega
 rw [zC] at H;refine dP ?_;refine (leave0 H results87 ?_).2;exact H.hp.jY (L':=C8 b3 bm _) (by repeat (first|exact jE _|apply List.Sublist.cons)) rfl
def KQ (d:gG):List Int:=(ko d.flow).flatMap refs++refs d.fin
def lM (d:gG):List Int:=(tO [] (KQ d)).filter fun q=>decide (q≠0)
theorem awZ {G:GH} {b3 bm:Nat} {hs:List dJ}:ZJ prog (.func (.func 87) #[] #[(aJ b3 0)]) G (hs.map HZ) fun k _ L=>L=C8 b3 bm (tO [] ((hs.take k).flatMap refs)):=by
 rintro k args G1 L w ⟨p,hp,h⟩ hG rfl hO;rw [qL] at hp;obtain ⟨x,hx,rfl⟩:=pF.1 hp;obtain ⟨q1,q2,q3,rfl,hR⟩:=h;obtain ⟨hk,rfl⟩:=jQ.1 hx;refine jJ (caps:=[(aJ b3 0)]) aeZ ((aiz G1 w b3 bm _ hs[k] q1 q2 q3 hR hO).mono ?_);rintro e w' ⟨v,G',L',rfl,hc,rfl⟩;exact ⟨v,G',_,rfl,hc,by show C8 b3 bm _=C8 b3 bm (tO [] ((hs.take (k+1)).flatMap refs));rw [kg hk,List.flatMap_append,OY];simp⟩
theorem aek (G:GH) (w0:World) (hG:Hold G w0) (D:jO) (d:gG) (hR:pz G D d) (hz:bO d.flow<=4294967296) (hw:∀ k∈lM d,-9223372036854775808<=k∧k < 9223372036854775808) (hl:(lM d).length<=4294967296) :
  Calls prog 38 #[D.val] w0 (bK w0 G fun u G'=>au G' (.sl 1 ((oZ (lM d)).map fun k=>[li k])) u):=by
 refine eN [(0,_)] func38 rfl ntmps38 rfl rfl hG ?_;intro a H;refine cO (fun _ K1=>?_);refine dW (cs:=[_,_,_,_,_,_,_,_,_,_,_]) H wn rfl rfl rfl ?_;clear H;intro b1 a w hb1 H;refine kH H (aj K1 rfl (SQ fun _ K2=>?_));clear H K1;intro a H;obtain ⟨Ga,hma,hb1',HQ⟩:=H.fB;clear H;have H:=HQ;clear HQ;have hga:=fun j v hj=>pR hb1' 0 D.cells rfl j v hj
 have hgd:∀ j v,[cB D.p,vi d.fin.marks.ins,vi d.fin.marks.move,cB D.d,cB D.y][j]?=some v->aH Ga b1 (1+j)=some v:=fun j v hj=>by rw [<- hR.ins,<- hR.mv] at hj;exact pR hb1' 1 [cB D.p,vi D.ins,vi D.move,cB D.d,cB D.y] rfl j v hj
 replace hR:=hR.mono hma;refine nH ?_;refine FD H wn rfl ?_;clear H;intro b5 a w hb5 H;refine dO rO H wn rfl ?_;clear H;intro b3 a w hb3 H;refine bC rO 0 (vs:=[_]) H wn rfl ?_;clear H;intro w H;refine aD ?_;refine K2 _ _ ?_;clear K2;refine cO (fun _ K3=>?_);refine rM H wn rfl rfl ?_;clear H;intro a H;refine kH H (aj K3 rfl (SR fun _ K4=>Rf vJ rfl (Rg kC rfl (hga 0 _ rfl) (Rm rfl ?_))));clear H K3;intro a H;refine gy VD (Li:=[]) (L:=C8 b3 b5 []) H wn rfl (agu 4294967297 (by omega) _ Ga ((ko d.flow).map HZ) (fun k _ L=>L=C8 b3 b5 (tO [] (((ko d.flow).take k).flatMap refs))) Ga _ _ 0 d.flow _ (fun _ _ h=>h) awZ (fun _ _ _ _ _ h=>h) rfl (Hp.owns (Li:=[]) H.hp) hR.fl (by omega) (fun i a h=>by rw [gI,qL,h];rfl)) rfl ?_;clear H;rintro v10 Ev L10 a w rfl DV H;rw [gI,zC] at H;dsimp only [List.nil_append] at H;refine K4 _ _ ?_;clear K4;refine kP H (SR fun _ K5=>Rm rfl (Rf EL rfl ?_));clear H;intro a H;refine bP fH (cs:=[cB D.p,vi d.fin.marks.ins,vi d.fin.marks.move,cB D.d,cB D.y]) H wn rfl rfl (fun j v hj=>H.hp.aH (aF DV (hgd j v hj))) rfl ?_;clear H;intro a H;refine xY (Li:=[]) (L:=C8 b3 b5 _) H wn rfl rfl (jJ (caps:=[(aJ b3 0)]) aeZ (aiz _ _ b3 b5 _ d.fin D.p D.d D.y (hR.hd.mono DV) (Hp.owns (Li:=[]) H.hp))) rfl ?_;clear H;rintro v14 Ew L14 a w rfl DY H;rw [<- OY] at H;dsimp only [List.nil_append] at H;refine K5 _ _ ?_;clear K5;refine kP H (SR fun _ K6=>Ro rO 0 rfl ?_);clear H;intro a H;refine azg (i:=1) yj mh (aan List.nodup_nil) H wn rfl rfl rfl ?_;clear H;intro es clock w hst hks H;dsimp only [List.set] at H;refine K6 _ _ ?_;clear K6;refine kP H (SR fun _ K7=>Ro rO 0 rfl ?_);clear H;intro a H;refine s_call afb H wn rfl (aif _ _ H.ro _) rfl ?_;clear H;rintro v17 BN a w ⟨bx,rfl,hbx⟩ sV H;refine s_call afa H wn rfl (ajE _ _ H.ro b5 bx clock es (lM d) hbx (H.hp.own (b5,.map es clock) (by simp)) hst hks hw hl) rfl ?_;clear H;rintro v18 ZO a w QS hm18 H;exact kH H (aj K7 rfl (LR results38 rfl fun H=>H.rt QS))
theorem WZ {C:aZ} {e:Int} {h:dJ} (hE:iD C e h=0):∀ q∈refs h,q=0∨q∈C.kM:=by
 have z:=lu hE;have h3:=z (jX C h.marks) (by simp);have h4:=z (iU (tX C h.marks.bE) h.marks.bE.length) (by simp);have h6:=z (iU (xR C e h.marks.layers) h.marks.layers.length) (by simp);intro q hq
 unfold refs at hq
 rcases fV.1 hq with rfl|hq
 ·unfold jX at h3
  by_cases h0:h.marks.ins=0
  ·exact .inl h0
  refine .inr (Classical.byContradiction fun hn=>?_);rw [aG ⟨h0,hn⟩] at h3;cases h3
 rcases jA.1 hq with hq|hq
 ·obtain ⟨x,hx,rfl⟩:=List.mem_map.1 hq;obtain ⟨k,hk,rfl⟩:=List.getElem_of_mem hx;have h5:=Cg h4 k hk
  unfold tX at h5
  rw [dV hk] at h5;dsimp only [uN] at h5;refine .inr (Classical.byContradiction fun hn=>?_);rw [aG hn] at h5;cases h5
 obtain ⟨x,hx,rfl⟩:=List.mem_map.1 hq;obtain ⟨k,hk,rfl⟩:=List.getElem_of_mem hx;have h5:=Cg h6 k hk
 unfold xR at h5
 rw [dV hk] at h5;dsimp only [Bl] at h5;refine .inr (Classical.byContradiction fun hn=>?_);rw [aG hn] at h5;cases h5
def qI (C:aZ) (L:List dJ):Prop:=∀ h∈L,∃ e,iD C e h=0
theorem qI.nil (C:aZ):qI C []:=fun _ h=>by cases h
theorem qI.cons {C:aZ} {e:Int} {h:dJ} {L:List dJ} (h1:iD C e h=0) (h2:qI C L):qI C (h :: L):=fun x hx=>by
 rcases fV.1 hx with rfl|hx
 ·exact ⟨e,h1⟩
 exact h2 x hx
theorem qI.app {C:aZ} {A B:List dJ} (h1:qI C A) (h2:qI C B):qI C (A++B):=fun x hx=>(jA.1 hx).elim (h1 x) (h2 x)
mutual
theorem auj (C:aZ) (body note:Bool) (t:Int):∀ (x:ak) (s s':CS),fJ C body note t x s=(0,s')->qI C (AX x)
 | .mk k c i tx h f r,s,s',e=>by
  have hf:=QE C false true t f;have hr:=agR C note (t+1) r;rw [fJ] at e;(iterate 2 obtain ⟨-,e⟩:=nG e);obtain ⟨e1,e⟩:=nG e;rw [AX];refine qI.cons e1 ?_
  by_cases h6:k=6
  ·exact aby
  rw [av h6] at e |-;rw [jR]
  by_cases h7:k=7
  ·rw [aG h7] at e |-;exact hr _ _ (Yy e).2
  rw [av h7];exact qI.nil C
theorem QE (C:aZ) (body note:Bool) (t:Int):∀ (l:List ak) (s s':CS),jT C body note t l s=(0,s')->qI C (ko l)
 | [],_,_,_=>by rw [ko];exact qI.nil C
 | x :: r,s,s',e=>by
  rw [jT] at e;obtain ⟨e1,e⟩:=nG e;rw [ko];exact (auj C body note t x s _ (Prod.ext e1 rfl)).app (QE C body note t r _ _ e)
theorem auk (C:aZ) (note:Bool) (t:Int):∀ (x:aS) (s s':CS),zY C note t x s=(0,s')->qI C (EX x)
 | .mk h cs,s,s',e=>by
  have hc:=agQ C note t cs;rw [zY] at e;obtain ⟨e1,e⟩:=nG e;rw [EX];exact qI.cons (lu e1 _ eT) (hc _ _ e)
theorem agR (C:aZ) (note:Bool) (t:Int):∀ (l:List aS) (s s':CS),jm C note t l s=(0,s')->qI C (pV l)
 | [],_,_,_=>by rw [pV];exact qI.nil C
 | x :: r,s,s',e=>by
  rw [jm] at e;obtain ⟨e1,e⟩:=nG e;rw [pV];exact (auk C note t x s _ (Prod.ext e1 rfl)).app (agR C note t r _ _ e)
theorem aui (C:aZ) (note:Bool) (t:Int):∀ (x:aV) (s s':CS),cellC C note t x s=(0,s')->qI C (EU x)
 | .mk i h f,s,s',e=>by
  have hf:=QE C false note t f;rw [cellC] at e;obtain ⟨-,e⟩:=nG e;obtain ⟨e1,e⟩:=nG e;rw [EU];exact qI.cons e1 (hf _ _ e)
theorem agQ (C:aZ) (note:Bool) (t:Int):∀ (l:List aV) (s s':CS),qZ C note t l s=(0,s')->qI C (qO l)
 | [],_,_,_=>by rw [qO];exact qI.nil C
 | x :: r,s,s',e=>by
  rw [qZ] at e;obtain ⟨e1,e⟩:=nG e;rw [qO];exact (aui C note t x s _ (Prod.ext e1 rfl)).app (agQ C note t r _ _ e)
end
theorem RU {d:gG} (hc:iL d=0):∀ q∈KQ d,q=0∨q∈d.revs.map bW.id:=by
 have z:=lu hc;have h2:=z (dL [iD d.kT 3 d.fin,dz (uW d.fin.marks) 21]) (by simp);have h3:=z (jT d.kT true false 0 d.flow ⟨0,[]⟩).1 (by simp);have hi:=QE d.kT true false 0 d.flow _ _ (PI h3);intro q hq
 unfold KQ at hq
 rcases jA.1 hq with hq|hq
 ·obtain ⟨h,hh,hq⟩:=List.mem_flatMap.1 hq;obtain ⟨e,he⟩:=hi h hh;exact WZ he q hq
 exact WZ (lu h2 _ eT) q hq
theorem aiW {d:gG} (hc:iL d=0):(d.revs.map bW.id).Pairwise (· < ·)∧∀ q∈d.revs.map bW.id,1<=q∧q<=1073741824:=by
 have h:=lu (lu hc _ eT) (Du d.revs) (by simp);have h1:=lu h _ (eT);have h2:=lu h _ (gK _ eT)
 have hl:d.revs.length<=256:=by
  unfold dz at h1
  by_cases hd:256 < (d.revs.length:Int)
  ·rw [aG (aI hd)] at h1;cases h1
  omega
 have hi:∀ i (hi:i < d.revs.length),1<=d.revs[i].id∧d.revs[i].id<=1073741824∧(∀ k (hk:k < d.revs.length),k+1=i->d.revs[k].id < d.revs[i].id):=by
  intro i hi;have h3:=Cg h2 i (by omega)
  unfold CU at h3
  rw [dV hi] at h3;have h4:=QX (lu h3 _ eT);rw [dV hi] at h4;refine ⟨h4.1,h4.2.1,fun k hk e=>?_⟩;subst e;have h5:=h4.2.2 (by omega);rw [Nat.add_sub_cancel,dV hk] at h5;exact h5
 refine ⟨List.pairwise_iff_getElem.2 ?_,fun q hq=>?_⟩
 ·intro i j hi' hj hij;rw [bQ] at hi' hj;rw [List.getElem_map,List.getElem_map]
  induction j with
  | zero=>omega
  | succ j ih =>
   have h1:=(hi (j+1) hj).2.2 j (by omega) rfl
   by_cases e:i=j
   ·subst e;exact h1
   exact Int.lt_trans (ih (by omega) (by omega) (by omega)) h1
 obtain ⟨x,hx,rfl⟩:=List.mem_map.1 hq;obtain ⟨k,hk,rfl⟩:=List.getElem_of_mem hx;exact ⟨(hi k hk).1,(hi k hk).2.1⟩
theorem akp {d:gG} (hc:iL d=0) {q:Int} (h:q∈lM d):1<=q∧q<=1073741824:=by
 unfold lM at h
 rw [List.mem_filter,qY,OZ] at h;obtain ⟨h1|h1,h2⟩:=h
 ·cases h1
 exact (aiW hc).2 q ((RU hc q h1).resolve_left h2)
theorem ako {d:gG} (hc:iL d=0):(lM d).length<=d.revs.length:=by
 obtain ⟨hi,-⟩:=aiW hc
 have hnd:(d.revs.map bW.id).Nodup:=hi.imp fun h=>by omega
 have hu:(lM d).Nodup:=(aan List.nodup_nil).sublist List.filter_sublist
 have hp:=(List.perm_ext_iff_of_nodup (hnd.sublist (List.filter_sublist (p:=fun q=>decide (q∈lM d)))) hu).2 fun q=>by
  rw [List.mem_filter,qY];refine ⟨fun h=>h.2,fun h=>⟨?_,h⟩⟩;have h1:=h
  unfold lM at h1
  rw [List.mem_filter,qY,OZ] at h1;obtain ⟨h2|h2,h3⟩:=h1
  ·cases h2
  exact (RU hc q h2).resolve_left h3
 rw [<- hp.length_eq];exact Nat.le_trans (List.length_filter_le _ _) (by rw [bQ];exact eu _)
theorem aor:aQ 113:=aR func113 rfl
theorem NV (G:GH) (x:bW):aY G x.dat x.cells:=by
 simp only [bW.dat,bW.cells,aY]
 exact aaI
def oW (l:List bW):List ah:=(l.map bW.cells).flatten
theorem Si:∀ l:List bW,(oW l).length=l.length*3
 | []=>rfl
 | p :: l=>by
  have:=Si l
  simp only [oW,eZ,List.flatten_cons,iw] at this |-
  rw [this,show p.cells.length=3 from rfl,kS];omega
theorem YJ:∀ {l:List bW} {k:Nat} (h:k < l.length) (j:Nat),j < 3->(oW l)[k*3+j]?=l[k].cells[j]?
 | p :: l,0,_,j,hj=>by
  simp only [oW,eZ,List.flatten_cons,Nat.zero_mul,gI,List.getElem_cons_zero]
  rw [zB (by rw [show p.cells.length=3 from rfl];exact hj)]
 | p :: l,k+1,h,j,hj=>by
  have ih:=YJ (l:=l) (k:=k) (by simpa using h) j hj
  simp only [oW,eZ,List.flatten_cons,List.getElem_cons_succ] at ih |-
  rw [uJ (by rw [show p.cells.length=3 from rfl];omega),show p.cells.length=3 from rfl,show (k+1)*3+j - 3=k*3+j by omega];exact ih
theorem YH (l m:List bW):oW (l++m)=oW l++oW m:=by simp [oW]
theorem ayC {w0 w:World} {F:Nat->Prop} {G0 G:GH} {L Lo:OL} {e c n:Nat} {A:Option Addr} {l:List bW} (h:cu e 3 (.slice A n c) n (oW l) Lo) (hn:n=l.length) (H:Hp w0 F G0 G L w) (hsub:∀ x∈Lo,x∈L) {k:Nat} (hk:k < l.length) :
  ∃ b,A=some ⟨b,0,none⟩∧∀ j u,[vi l[k].id,.string l[k].author,vi l[k].time][j]?=some u->w.cell? ⟨b,0+k*3+j,none⟩=some u:=by
 rcases h.2 with ⟨_,h0,_⟩|⟨b,cap,cur,he,hl,h1,h2,h3,h4⟩
 ·omega
 injection he with e1 e2 e3
 refine ⟨b,e1,fun j u hu=>?_⟩
 have hj:j < 3:=by have:=(jQ.1 hu).1;simpa using this
 refine H.zW (c:=cur) (e:=e) (fz:=(0,0)) (hsub _ (by rw [hl];exact List.mem_singleton_self _)) ?_;have h5:=YJ hk j hj;rw [<- h4,uH,mQ,Array.getElem?_toList] at h5;rw [show 0+k*3+j=k*3+j by omega,h5];exact hu
theorem aaZ {p:Prop} (h:p:=by
 first
  | exact H.hp.fQ ⟨rfl,by rw [XL hk2 hno h16];rfl⟩
  | exact H.hp.fQ ⟨rfl,by rw [show l.take k=l from nU (by omega)] at hno;rw [hno];rfl⟩):p:=h
theorem avB {G:GH} {w0:World} {Lo:OL} {v fv:ah} (l:List bW) (p:bW->Bool) (hO:gH G Lo w0) (hrw:cu 102 3 v l.length (oW l) Lo) (hf:∀ x∈l,uG fv G x.dat (p x)) :
  Calls prog 113 #[v,fv] w0 (fU w0 G Lo fun u G' L'=>L'=Lo∧u=vi (nY (l.findIdx? p))):=by
 obtain ⟨A,c,rfl,hc1,hc2⟩:=hrw.shape;have hml:maxLen=9223372036854775807:=rfl;refine jc (N:=19) (T:=[(0,_),(1,_)]) func113 rfl ntmps113 rfl rfl hO ?_;intro a H;refine kP H (SR fun _ K1=>aj K1 rfl (SQ fun _ K2=>SR fun _ K3=>Rm rfl (Rl qG rfl (Rm rfl (Kz K3 (SB ?_))))));clear H K1 K3;intro a H;skip;refine eX (ι:=Nat × GH) (Tc:=[(0,_),(1,_),(7,_)]) (Lc:=[]) (fun gh=>[(8,vi gh.1)]) (fun gh=>[]++Lo) (fun gh=>gh.2) (fun gh=>gh.1<=l.length∧(l.take gh.1).findIdx? p=none∧(∀ b o,G b=some o->gh.2 b=some o)) (fun gh=>l.length - gh.1) ((0,G)) (by exact H.sub ⟨rfl,rfl,rfl,rfl,aB⟩) ?_ ?_
 ·exact Aq
 clear H;rintro ⟨k,g⟩ a w hI H;dsimp only at hI H;obtain ⟨hk,hno,hgm⟩:=hI;dsimp only [lca,bJ] at H;refine kP H (SR fun _ K4=>Rc rfl (Kz K4 (SQ fun _ K5=>Cd rfl ?_ ?_))) <;> clear H K4
 ·intro h9 a H
  try have p9:=dT h9
  have hk2:k < l.length:=by omega
  obtain ⟨b,rfl,hrow⟩:=ayC hrw rfl H.hp (fun x hx=>by first|exact hx|exact gK _ hx|simpa using hx) hk2;refine kP H (Kc K5 (SQ fun _ K6=>SB (SR fun _ K7=>Rm rfl (aj K7 rfl (SR fun _ K8=>Rm rfl (Rm rfl (Rm rfl (Ri qG qh rfl rfl ?_))))))));clear H K5 K7;intro a H;refine bP qh (cs:=[vi l[k].id,.string l[k].author,vi l[k].time]) H wn rfl rfl hrow rfl ?_;clear H;intro a H;refine kX H wn rfl rfl (hf _ (jB hk2) _ _ _ hgm H.ro (NV _ l[k])) rfl ?_;clear H;rintro v16 uD a w rfl uh H;refine K8 _ _ ?_;clear K8;refine jS H rfl ?_ ?_
  ·intro h16
   try have p16:=dT h16
   refine kP H (SR fun _ K9=>Rm rfl (aj K9 rfl ?_));clear H K9;intro a H;refine lr H results113 rfl ?_
   exact aaZ
  intro h16
  try have p16:=dF h16
  refine kP H (Kc K6 (SC (Rd rfl (Rm rfl ?_))));clear H K6;intro a H;refine aD ?_;refine dG ((k+1,uD)) (by exact H.sub ⟨rfl,rfl,rfl,rfl,aB⟩) ?_
  (try dsimp only);exact Ua
 intro h9 a H
 try have p9:=dF h9
 refine dP ?_;refine K2 _ _ ?_;clear K2;refine kP H (SR fun _ aW=>aj aW rfl ?_);clear H aW;intro a H;refine lr H results113 rfl ?_
 exact aaZ
theorem ayr {G:GH} {l:List bW} {xs:List ah} (h:bZ G 3 (l.map bW.dat) xs):xs=oW l:=by
 obtain ⟨css,rfl,h2,h3⟩:=h;rw [bQ] at h2
 have e:css=l.map bW.cells:=by
  apply List.ext_getElem?
  intro j;rw [qL]
  by_cases hj:j < l.length
  ·have h4:=(h3 j l[j].dat css[j] (by simp [hj]) (dV (by omega))).1;rw [dV hj,dV (by omega),YP h4];rfl
  rw [List.getElem?_eq_none (by omega),List.getElem?_eq_none (by omega)];rfl
 rw [e];rfl
theorem aye {l:List bW} {p:bW->Bool} {i:Nat} (h:l.findIdx? p=some i):∃ hi:i < l.length,(l.take (i+1)).filter (fun x=>!p x)=l.take i:=by
 obtain ⟨hi,h1,h2⟩:=List.findIdx?_eq_some_iff_getElem.1 h;refine ⟨hi,?_⟩;rw [kg hi,List.filter_append,List.filter_eq_self.2]
 ·simp [h1]
 intro x hx;obtain ⟨j,hj,rfl⟩:=List.getElem_of_mem hx;rw [List.getElem_take]
 have hj2:j < i:=by rw [List.length_take] at hj;omega
 have:=h2 j hj2
 simpa using this
theorem ayf {l:List bW} {p:bW->Bool} (h:l.findIdx? p=none):l.filter (fun x=>!p x)=l:=by
 rw [List.findIdx?_eq_none_iff] at h
 exact List.filter_eq_self.2 fun x hx=>by rw [h x hx];rfl
theorem ayg {cl:List ah} {i:Nat} {x y z:ah} (h:i*3+3<=cl.length):(setRow cl (0+i*3) [x,y,z]).length=cl.length∧(setRow cl (0+i*3) [x,y,z]).take ((i+1)*3)=cl.take (i*3)++[x,y,z]∧∀ m,(i+1)*3<=m->(setRow cl (0+i*3) [x,y,z])[m]?=cl[m]?:=by
 have e:setRow cl (0+i*3) [x,y,z]=cl.take (i*3)++[x,y,z]++cl.drop (i*3+3):=by
  rw [gI,Sv _ _ _ (by simpa using h)];rfl
 have hl:(cl.take (i*3)++[x,y,z]).length=(i+1)*3:=by rw [iw,List.length_take];simp;omega
 refine ⟨Y0 ..,?_,fun m hm=>?_⟩
 ·rw [e,<- hl,List.take_left]
 rw [e,uJ (by omega),hl,List.getElem?_drop];congr 1;omega
theorem ayd {l:List bW} {cl:List ah} {i:Nat} (hi:i < l.length) (h:cl.take (l.length*3)=oW l):cl.take (i*3)=oW (l.take i):=by
 have e:cl.take (i*3)=(cl.take (l.length*3)).take (i*3):=by rw [List.take_take,Nat.min_eq_left (by omega)]
 have h2:oW l=oW (l.take i)++oW (l.drop i):=by rw [<- YH,List.take_append_drop]
 have h3:(oW (l.take i)).length=i*3:=by rw [Si,List.length_take];omega
 rw [e,h,h2,<- h3,List.take_left]
theorem ayh {l:List bW} {p:bW->Bool} {j:Nat} (hj:j < l.length):(l.take (j+1)).filter (fun x=>!p x)=(l.take j).filter (fun x=>!p x)++if p l[j] then [] else [l[j]]:=by
 rw [kg hj,List.filter_append]
 cases h:p l[j] <;> simp [h]
set_option maxHeartbeats 1000000 in
theorem anX {G:GH} {w0:World} {Lo:OL} {v fv:ah} (l:List bW) (p:bW->Bool) (hO:gH G Lo w0) (hrw:cu 102 3 v l.length (oW l) Lo) (hf:∀ x∈l,uG fv G x.dat (p x)) :
  Calls prog 59 #[v,fv] w0 (fU w0 G Lo fun u G' L'=>cu 102 3 u (l.filter fun x=>!p x).length (oW (l.filter fun x=>!p x)) L'):=by
 obtain ⟨A,c,rfl,hc1,hc2⟩:=hrw.shape;have hml:maxLen=9223372036854775807:=rfl;have hdl:=Si l;refine jc (N:=42) (T:=[(0,_),(1,_)]) func59 rfl ntmps59 rfl rfl hO ?_;intro a H;refine kP H (SR fun _ K1=>aj K1 rfl (SR fun _ K2=>Rm rfl (Rm rfl ?_)));clear H K1;intro a H;refine gy aor (Li:=[]) (L:=Lo) H wn rfl (avB l p (Hp.owns (Li:=[]) H.hp) hrw hf) rfl ?_;clear H;rintro v10 Ev L10 a w ⟨rfl,rfl⟩ DV H;dsimp only [List.nil_append] at H;obtain ⟨o,ho⟩:∃ o,o=l.findIdx? p:=⟨_,rfl⟩;rw [<- ho] at H;refine kH H (aj K2 rfl (SQ fun _ K3=>SR fun _ K4=>Rm rfl (Rc rfl (Kz K4 (Cd rfl ?_ ?_))))) <;> clear H K2 K4
 ·intro h12 a H
  try have qD:=dT h12
  obtain rfl:o=none:=by cases o with|none=>rfl|some i=>first|(simp [nY] at qD;done)|(simp [nY] at qD;omega)
  exact kP H (SR fun _ K5=>Rm rfl (aj K5 rfl (LR results59 rfl fun H=>H.hp.fQ (by rw [ayf ho.symm];exact hrw))))
 intro h12 a H
 try have qD:=dF h12
 obtain ⟨i0,rfl⟩:∃ i,o=some i:=by cases o with|none=>simp [nY] at qD|some i=>exact ⟨i,rfl⟩
 obtain ⟨hi0,hinit⟩:=aye ho.symm
 rcases hrw.2 with ⟨_,h0,_⟩|⟨b,cap,cur,he,rfl,hcap1,hcap2,hsz,htk⟩
 ·omega
 injection he with e1 e2 e3
 subst e1;subst e3;obtain ⟨cl0,rfl⟩:∃ cl:List ah,cur=cl.toArray:=⟨cur.toList,by simp⟩;rw [List.size_toArray] at hsz;dsimp only [nY] at H;refine kP H (Kc K3 (SQ fun _ K6=>SR fun _ K7=>Rm rfl (Rd rfl (aj K7 rfl (SB ?_)))));clear H K3 K7;intro a H;skip;refine eX (ι:=Nat × Nat × List ah × GH) (Tc:=[(0,_),(1,_)]) (Lc:=[]) (fun gh=>[(5,vi gh.2.1),(6,vi gh.1)]) (fun gh=>[(b,.cells gh.2.2.1.toArray 102 (0,0))]) (fun gh=>gh.2.2.2) (fun gh=>gh.2.1 < gh.1∧gh.1<=l.length∧gh.2.2.1.length=c*3∧gh.2.1=((l.take gh.1).filter fun x=>!p x).length∧gh.2.2.1.take (gh.2.1*3)=oW ((l.take gh.1).filter fun x=>!p x)∧(∀ m,gh.1*3<=m->m < l.length*3->gh.2.2.1[m]?=(oW l)[m]?)∧(∀ b o,G b=some o->gh.2.2.2 b=some o)) (fun gh=>l.length - gh.1) ((i0+1,i0,cl0,Ev)) (by exact H.sub ⟨rfl,rfl,rfl,rfl,aB⟩) ?_ ?_
 ·exact ⟨Nat.lt_succ_self _,hi0,hsz,by rw [hinit,List.length_take];exact (Nat.min_eq_left (Nat.le_of_lt hi0)).symm,by rw [hinit];exact ayd hi0 htk,fun m h1 h2=>by rw [<- htk,uH,aG h2],DV⟩
 clear H;rintro ⟨j,i,cl,g⟩ a w hI H;dsimp only at hI H;obtain ⟨hij,hj,hcl,hil,hkept,hrest,hgm⟩:=hI;dsimp only [lca,bJ] at H;refine kP H (SQ fun _ K8=>SR fun _ K9=>Rm rfl (Rm rfl (Rl qG rfl (Rc rfl (Kz K9 (Cd rfl ?_ ?_)))))) <;> clear H K9
 ·intro h19 a H
  try have tC:=dT h19
  have hj2:j < l.length:=by omega
  have hjc:∀ q u,[vi l[j].id,.string l[j].author,vi l[j].time][q]?=some u->cl.toArray[0+j*3+q]?=some u:=fun q u hq=>by
   have hq2:q < 3:=by have:=(jQ.1 hq).1;simpa using this
   rw [List.getElem?_toArray,gI,hrest _ (by omega) (by omega),YJ hj2 q hq2];exact hq
  have hdt:=ayh (p:=p) hj2;refine kP H (Kc K8 (SQ fun _ aW=>SB (SR fun _ bM=>Rm rfl (Rm rfl (Ri qG qh rfl rfl ?_)))));clear H K8;intro a H;refine bP qh (cs:=[vi l[j].id,.string l[j].author,vi l[j].time]) H wn rfl rfl (fun q u hq=>H.hp.zW (c:=cl.toArray) eT (hjc q u hq)) rfl ?_;clear H;intro a H;refine dO qh H wn rfl ?_;clear H;intro b7 a w AZ H;refine bC qh 0 (vs:=[_,_,_]) H wn rfl ?_;clear H;intro w H;refine bM _ _ ?_;clear bM;refine kP H (SR fun _ bU=>Rm rfl ?_);clear H;intro a H;refine bP qh (cs:=[_,_,_]) H wn rfl rfl (H.hp.dx 0 rfl rfl) rfl ?_;clear H;intro a H;refine kX H wn rfl rfl (hf _ (jB hj2) _ _ _ hgm H.ro (NV _ l[j])) rfl ?_;clear H;rintro v28 LC a w rfl Na H;refine kH H (Rn rfl (Kz bU (Cd rfl ?_ ?_))) <;> clear H bU
  ·intro gW a H
   try have p29:=dT gW
   rw [av (by simpa using gW)] at hdt;have hds:=ayg (cl:=cl) (i:=i) (x:=vi l[j].id) (y:=.string l[j].author) (z:=vi l[j].time) (by omega);refine kP H (SR fun _ bY=>Rm rfl (Rm rfl ?_));clear H;intro a H;refine bP qh (cs:=[_,_,_]) H wn rfl rfl (H.hp.dx 0 rfl rfl) rfl ?_;clear H;intro a H;refine kH H (Ri qG qh rfl rfl ?_);clear H;intro a H;refine KW qh 1 (c:=cl) (vs:=[vi l[j].id,.string l[j].author,vi l[j].time]) _ H wn rfl rfl rfl rfl rfl rfl (Nat.ble_eq_true_of_le (by simp only [kS,List.length_nil];omega)) rfl ?_;clear H;intro w H;dsimp only [List.set] at H;refine bY _ _ ?_;clear bY;refine kP H (SC (Rm rfl (Rd rfl (aX aW rfl (SC (Rm rfl (Rd rfl (Ra rfl ?_))))))));clear H aW;intro a H;refine aD ?_;refine dG ((j+1,i+1,setRow cl (0+i*3) [vi l[j].id,.string l[j].author,vi l[j].time],LC)) (by exact (H.eD (Pl:=[_,_]) (dN:=[_]) [1] (by decide) rfl).sub ⟨rfl,rfl,rfl,rfl,aB⟩) ?_
   (try dsimp only);exact ⟨by omega,by omega,by rw [hds.1,hcl],by rw [hdt,iw,<- hil];rfl,by rw [hdt,YH,<- hkept,hds.2.1];rfl,fun m h1 h2=>by rw [hds.2.2 m (by omega),hrest m (by omega) h2],fun b o h=>Na b o (hgm b o h)⟩
  intro gW a H
  try have p29:=dF gW
  rw [aG (by simpa using gW),ig] at hdt;refine kP H (Kc aW (SC (Rm rfl (Rd rfl (Ra rfl ?_)))));clear H aW;intro a H;refine aD ?_;refine dG ((j+1,i,cl,LC)) (by exact (H.eD (Pl:=[_,_]) (dN:=[_]) [1] (by decide) rfl).sub ⟨rfl,rfl,rfl,rfl,aB⟩) ?_
  (try dsimp only);exact ⟨by omega,by omega,hcl,by rw [hdt];exact hil,by rw [hdt];exact hkept,fun m h1 h2=>hrest m (by omega) h2,fun b o h=>Na b o (hgm b o h)⟩
 intro h19 a H
 try have tC:=dF h19
 refine dP ?_;refine K6 _ _ ?_;clear K6;refine kP H (SR fun _ cZ=>Rm rfl (Rm rfl ?_));clear H;intro a H;refine CY qG qh i H wn rfl rfl rfl (by omega) rfl ?_;clear H;intro a H;rw [dw,wo,add_lit] at H;refine ajr qG qh rfl rfl 0 H wn rfl rfl (by omega) (by omega) ?_;clear H;intro cz w hz1 hz2 H;dsimp only [List.set] at H;refine cZ _ _ ?_;clear cZ;refine kP H (SR fun _ dQ=>Rm rfl (Rm rfl ?_));clear H;intro a H;refine IL qG qh i H wn rfl rfl rfl (by omega) rfl ?_;clear H;intro a H;refine kH H (aj dQ rfl ?_);clear H dQ;intro a H;refine lr H results59 rfl ?_
 obtain rfl:j=l.length:=by omega
 rw [zC] at hil hkept;exact H.hp.fQ ⟨Si _,.inr ⟨b,c,cz.toArray,by rw [<- hil],rfl,by omega,hcap2,by rw [List.size_toArray,hz1,hcl],by rw [<- hkept,<- hil];rw [gI] at hz2;exact hz2⟩⟩
theorem ama {p:Prop} (h:p:=by
 exact H.hp.fQ ⟨[],cu.nil,bZ.nil⟩):p:=h
theorem JA {p:Prop} (h:p:=by
 exact H.hp.fQ ⟨[],cu.empty,bZ.nil⟩):p:=h
theorem JD {p:Prop} (h:p:=by
 have hr0:=hnil (by simpa using h4);subst hr0;exact ama):p:=h
theorem adG (G:GH) (w0:World) (hO:gH G [] w0) (rows:List (List Dat)) (A:Option Addr) (n c:Nat) (hv:au G (.sl 3 rows) (.slice A n c)) (hz:rows.length<=4294967296) :
  Calls prog 60 #[.slice A n c] w0 (fU w0 G [] fun u G' L'=>∃ xs,cu 102 3 u rows.length xs L'∧bZ G' 3 rows xs):=by
 obtain ⟨hn,hc1,hc2,hnil,hx⟩:=hv.cells;refine jc (N:=8) (T:=[(0,_)]) func60 rfl ntmps60 rfl rfl hO ?_;intro a H;refine kP H (SR fun _ K1=>aj K1 rfl (SQ fun _ K2=>SR fun _ K3=>Rm rfl ?_));clear H K1;intro a H;refine CW qG H wn rfl rfl ?_;clear H;intro a H;refine K3 _ _ ?_;clear K3;refine jS H rfl ?_ ?_
 ·intro h4
  refine kP H (SR fun _ K4=>aj K4 rfl ?_);clear H K4;intro a H;refine lr H results60 rfl ?_;exact JD
 intro h4
 try have p4:=dF h4
 refine iB ?_;refine K2 _ _ ?_;clear K2;refine bD (fun _ K5=>?_)
 have hA:¬ A=none:=by intro e;rw [e] at h4;cases h4
 refine nH ?_;refine Aa qG qh H wn rfl ?_;clear H;intro b5 a w hb5 H;refine kH H (Rm rfl ?_);clear H;intro a H
 by_cases hr0:rows=[]
 ·have hn0:n=0:=by rw [hn,hr0];rfl
  subst hn0;refine Bt qG qh H wn rfl rfl (eu _) rfl ?_;clear H;intro a H;refine kH H (aX K5 rfl ?_);clear H K5;intro a H;refine lr H results60 rfl ?_;subst hr0;exact JA
 obtain ⟨b,o,xs,rfl,hxl,hxc,hx1,fG⟩:=hx hr0;refine oh (Li:=[]) (Lo:=[_]) (news:=xs) qG qh rfl rfl H wn rfl rfl cu.empty hxl (fun j u hj=>H.hp.aH (hxc j u hj)) hx1 (by omega) (by omega) rfl ?_;clear H;intro v7 Lo a w hrow H;dsimp only [List.nil_append] at H;exact kH H (aX K5 rfl (LR results60 rfl fun H=>H.hp.fQ ⟨_,by rw [gI,hn] at hrow;exact hrow,fG⟩))
theorem anz (G:GH) (w0:World) (hO:gH G [] w0) (rows:List (List Dat)) (A:Option Addr) (n c:Nat) (hv:au G (.sl 6 rows) (.slice A n c)) (hz:rows.length<=4294967296) :
  Calls prog 175 #[.slice A n c] w0 (fU w0 G [] fun u G' L'=>∃ xs,cu 192 6 u rows.length xs L'∧bZ G' 6 rows xs):=by
 obtain ⟨hn,hc1,hc2,hnil,hx⟩:=hv.cells;refine jc (N:=8) (T:=[(0,_)]) func175 rfl ntmps175 rfl rfl hO ?_;intro a H;refine kP H (SR fun _ K1=>aj K1 rfl (SQ fun _ K2=>SR fun _ K3=>Rm rfl ?_));clear H K1;intro a H;refine CW mX H wn rfl rfl ?_;clear H;intro a H;refine K3 _ _ ?_;clear K3;refine jS H rfl ?_ ?_
 ·intro h4
  refine kP H (SR fun _ K4=>aj K4 rfl ?_);clear H K4;intro a H;refine lr H results175 rfl ?_;exact JD
 intro h4
 try have p4:=dF h4
 refine iB ?_;refine K2 _ _ ?_;clear K2;refine bD (fun _ K5=>?_)
 have hA:¬ A=none:=by intro e;rw [e] at h4;cases h4
 refine nH ?_;refine Aa mX kZ H wn rfl ?_;clear H;intro b5 a w hb5 H;refine kH H (Rm rfl ?_);clear H;intro a H
 by_cases hr0:rows=[]
 ·have hn0:n=0:=by rw [hn,hr0];rfl
  subst hn0;refine Bt mX kZ H wn rfl rfl (eu _) rfl ?_;clear H;intro a H;refine kH H (aX K5 rfl ?_);clear H K5;intro a H;refine lr H results175 rfl ?_;subst hr0;exact JA
 obtain ⟨b,o,xs,rfl,hxl,hxc,hx1,fG⟩:=hx hr0;refine oh (Li:=[]) (Lo:=[_]) (news:=xs) mX kZ rfl rfl H wn rfl rfl cu.empty hxl (fun j u hj=>H.hp.aH (hxc j u hj)) hx1 (by omega) (by omega) rfl ?_;clear H;intro v7 Lo a w hrow H;dsimp only [List.nil_append] at H;exact kH H (aX K5 rfl (LR results175 rfl fun H=>H.hp.fQ ⟨_,by rw [gI,hn] at hrow;exact hrow,fG⟩))
theorem anx (G:GH) (w0:World) (hO:gH G [] w0) (rows:List (List Dat)) (A:Option Addr) (n c:Nat) (hv:au G (.sl 2 rows) (.slice A n c)) (hz:rows.length<=4294967296) :
  Calls prog 176 #[.slice A n c] w0 (fU w0 G [] fun u G' L'=>∃ xs,cu 93 2 u rows.length xs L'∧bZ G' 2 rows xs):=by
 obtain ⟨hn,hc1,hc2,hnil,hx⟩:=hv.cells;refine jc (N:=8) (T:=[(0,_)]) func176 rfl ntmps176 rfl rfl hO ?_;intro a H;refine kP H (SR fun _ K1=>aj K1 rfl (SQ fun _ K2=>SR fun _ K3=>Rm rfl ?_));clear H K1;intro a H;refine CW yu H wn rfl rfl ?_;clear H;intro a H;refine K3 _ _ ?_;clear K3;refine jS H rfl ?_ ?_
 ·intro h4
  refine kP H (SR fun _ K4=>aj K4 rfl ?_);clear H K4;intro a H;refine lr H results176 rfl ?_;exact JD
 intro h4
 try have p4:=dF h4
 refine iB ?_;refine K2 _ _ ?_;clear K2;refine bD (fun _ K5=>?_)
 have hA:¬ A=none:=by intro e;rw [e] at h4;cases h4
 refine nH ?_;refine Aa yu BG H wn rfl ?_;clear H;intro b5 a w hb5 H;refine kH H (Rm rfl ?_);clear H;intro a H
 by_cases hr0:rows=[]
 ·have hn0:n=0:=by rw [hn,hr0];rfl
  subst hn0;refine Bt yu BG H wn rfl rfl (eu _) rfl ?_;clear H;intro a H;refine kH H (aX K5 rfl ?_);clear H K5;intro a H;refine lr H results176 rfl ?_;subst hr0;exact JA
 obtain ⟨b,o,xs,rfl,hxl,hxc,hx1,fG⟩:=hx hr0;refine oh (Li:=[]) (Lo:=[_]) (news:=xs) yu BG rfl rfl H wn rfl rfl cu.empty hxl (fun j u hj=>H.hp.aH (hxc j u hj)) hx1 (by omega) (by omega) rfl ?_;clear H;intro v7 Lo a w hrow H;dsimp only [List.nil_append] at H;exact kH H (aX K5 rfl (LR results176 rfl fun H=>H.hp.fQ ⟨_,by rw [gI,hn] at hrow;exact hrow,fG⟩))
theorem anv (G:GH) (w0:World) (hO:gH G [] w0) (rows:List (List Dat)) (A:Option Addr) (n c:Nat) (hv:au G (.sl 6 rows) (.slice A n c)) (hz:rows.length<=4294967296) :
  Calls prog 177 #[.slice A n c] w0 (fU w0 G [] fun u G' L'=>∃ xs,cu 107 6 u rows.length xs L'∧bZ G' 6 rows xs):=by
 obtain ⟨hn,hc1,hc2,hnil,hx⟩:=hv.cells;refine jc (N:=8) (T:=[(0,_)]) func177 rfl ntmps177 rfl rfl hO ?_;intro a H;refine kP H (SR fun _ K1=>aj K1 rfl (SQ fun _ K2=>SR fun _ K3=>Rm rfl ?_));clear H K1;intro a H;refine CW Ae H wn rfl rfl ?_;clear H;intro a H;refine K3 _ _ ?_;clear K3;refine jS H rfl ?_ ?_
 ·intro h4
  refine kP H (SR fun _ K4=>aj K4 rfl ?_);clear H K4;intro a H;refine lr H results177 rfl ?_;exact JD
 intro h4
 try have p4:=dF h4
 refine iB ?_;refine K2 _ _ ?_;clear K2;refine bD (fun _ K5=>?_)
 have hA:¬ A=none:=by intro e;rw [e] at h4;cases h4
 refine nH ?_;refine Aa Ae Bw H wn rfl ?_;clear H;intro b5 a w hb5 H;refine kH H (Rm rfl ?_);clear H;intro a H
 by_cases hr0:rows=[]
 ·have hn0:n=0:=by rw [hn,hr0];rfl
  subst hn0;refine Bt Ae Bw H wn rfl rfl (eu _) rfl ?_;clear H;intro a H;refine kH H (aX K5 rfl ?_);clear H K5;intro a H;refine lr H results177 rfl ?_;subst hr0;exact JA
 obtain ⟨b,o,xs,rfl,hxl,hxc,hx1,fG⟩:=hx hr0;refine oh (Li:=[]) (Lo:=[_]) (news:=xs) Ae Bw rfl rfl H wn rfl rfl cu.empty hxl (fun j u hj=>H.hp.aH (hxc j u hj)) hx1 (by omega) (by omega) rfl ?_;clear H;intro v7 Lo a w hrow H;dsimp only [List.nil_append] at H;exact kH H (aX K5 rfl (LR results177 rfl fun H=>H.hp.fQ ⟨_,by rw [gI,hn] at hrow;exact hrow,fG⟩))
theorem anp (G:GH) (w0:World) (hG:Hold G w0) (rows:List (List Dat)) (A:Option Addr) (n c:Nat) (hv:au G (.sl 6 rows) (.slice A n c)) (hz:rows.length<=4294967296) :
  Calls prog 177 #[.slice A n c] w0 (bK w0 G fun u G'=>au G' (.sl 6 rows) u):=JI hG (anv G w0 (wT hG) rows A n c hv hz) rfl
theorem anA (G:GH) (w0:World) (hO:gH G [] w0) (rows:List (List Dat)) (A:Option Addr) (n c:Nat) (hv:au G (.sl 2 rows) (.slice A n c)) (hz:rows.length<=4294967296) :
  Calls prog 178 #[.slice A n c] w0 (fU w0 G [] fun u G' L'=>∃ xs,cu 110 2 u rows.length xs L'∧bZ G' 2 rows xs):=by
 obtain ⟨hn,hc1,hc2,hnil,hx⟩:=hv.cells;refine jc (N:=8) (T:=[(0,_)]) func178 rfl ntmps178 rfl rfl hO ?_;intro a H;refine kP H (SR fun _ K1=>aj K1 rfl (SQ fun _ K2=>SR fun _ K3=>Rm rfl ?_));clear H K1;intro a H;refine CW wX H wn rfl rfl ?_;clear H;intro a H;refine K3 _ _ ?_;clear K3;refine jS H rfl ?_ ?_
 ·intro h4
  refine kP H (SR fun _ K4=>aj K4 rfl ?_);clear H K4;intro a H;refine lr H results178 rfl ?_;exact JD
 intro h4
 try have p4:=dF h4
 refine iB ?_;refine K2 _ _ ?_;clear K2;refine bD (fun _ K5=>?_)
 have hA:¬ A=none:=by intro e;rw [e] at h4;cases h4
 refine nH ?_;refine Aa wX Bz H wn rfl ?_;clear H;intro b5 a w hb5 H;refine kH H (Rm rfl ?_);clear H;intro a H
 by_cases hr0:rows=[]
 ·have hn0:n=0:=by rw [hn,hr0];rfl
  subst hn0;refine Bt wX Bz H wn rfl rfl (eu _) rfl ?_;clear H;intro a H;refine kH H (aX K5 rfl ?_);clear H K5;intro a H;refine lr H results178 rfl ?_;subst hr0;exact JA
 obtain ⟨b,o,xs,rfl,hxl,hxc,hx1,fG⟩:=hx hr0;refine oh (Li:=[]) (Lo:=[_]) (news:=xs) wX Bz rfl rfl H wn rfl rfl cu.empty hxl (fun j u hj=>H.hp.aH (hxc j u hj)) hx1 (by omega) (by omega) rfl ?_;clear H;intro v7 Lo a w hrow H;dsimp only [List.nil_append] at H;exact kH H (aX K5 rfl (LR results178 rfl fun H=>H.hp.fQ ⟨_,by rw [gI,hn] at hrow;exact hrow,fG⟩))
theorem anr (G:GH) (w0:World) (hG:Hold G w0) (rows:List (List Dat)) (A:Option Addr) (n c:Nat) (hv:au G (.sl 2 rows) (.slice A n c)) (hz:rows.length<=4294967296) :
  Calls prog 178 #[.slice A n c] w0 (bK w0 G fun u G'=>au G' (.sl 2 rows) u):=JI hG (anA G w0 (wT hG) rows A n c hv hz) rfl
theorem anw (G:GH) (w0:World) (hO:gH G [] w0) (rows:List (List Dat)) (A:Option Addr) (n c:Nat) (hv:au G (.sl 4 rows) (.slice A n c)) (hz:rows.length<=4294967296) :
  Calls prog 179 #[.slice A n c] w0 (fU w0 G [] fun u G' L'=>∃ xs,cu 96 4 u rows.length xs L'∧bZ G' 4 rows xs):=by
 obtain ⟨hn,hc1,hc2,hnil,hx⟩:=hv.cells;refine jc (N:=8) (T:=[(0,_)]) func179 rfl ntmps179 rfl rfl hO ?_;intro a H;refine kP H (SR fun _ K1=>aj K1 rfl (SQ fun _ K2=>SR fun _ K3=>Rm rfl ?_));clear H K1;intro a H;refine CW FK H wn rfl rfl ?_;clear H;intro a H;refine K3 _ _ ?_;clear K3;refine jS H rfl ?_ ?_
 ·intro h4
  refine kP H (SR fun _ K4=>aj K4 rfl ?_);clear H K4;intro a H;refine lr H results179 rfl ?_;exact JD
 intro h4
 try have p4:=dF h4
 refine iB ?_;refine K2 _ _ ?_;clear K2;refine bD (fun _ K5=>?_)
 have hA:¬ A=none:=by intro e;rw [e] at h4;cases h4
 refine nH ?_;refine Aa FK IV H wn rfl ?_;clear H;intro b5 a w hb5 H;refine kH H (Rm rfl ?_);clear H;intro a H
 by_cases hr0:rows=[]
 ·have hn0:n=0:=by rw [hn,hr0];rfl
  subst hn0;refine Bt FK IV H wn rfl rfl (eu _) rfl ?_;clear H;intro a H;refine kH H (aX K5 rfl ?_);clear H K5;intro a H;refine lr H results179 rfl ?_;subst hr0;exact JA
 obtain ⟨b,o,xs,rfl,hxl,hxc,hx1,fG⟩:=hx hr0;refine oh (Li:=[]) (Lo:=[_]) (news:=xs) FK IV rfl rfl H wn rfl rfl cu.empty hxl (fun j u hj=>H.hp.aH (hxc j u hj)) hx1 (by omega) (by omega) rfl ?_;clear H;intro v7 Lo a w hrow H;dsimp only [List.nil_append] at H;exact kH H (aX K5 rfl (LR results179 rfl fun H=>H.hp.fQ ⟨_,by rw [gI,hn] at hrow;exact hrow,fG⟩))
theorem anq (G:GH) (w0:World) (hG:Hold G w0) (rows:List (List Dat)) (A:Option Addr) (n c:Nat) (hv:au G (.sl 4 rows) (.slice A n c)) (hz:rows.length<=4294967296) :
  Calls prog 179 #[.slice A n c] w0 (bK w0 G fun u G'=>au G' (.sl 4 rows) u):=JI hG (anw G w0 (wT hG) rows A n c hv hz) rfl
theorem apf:aQ 175:=aR func175 rfl
theorem apg:aQ 176:=aR func176 rfl
theorem aph:aQ 177:=aR func177 rfl
theorem apj:aQ 178:=aR func178 rfl
theorem aAs:qK prog 36 [(0,1),(1,1),(2,1),(3,1)] [.slice none 0 0,.slice none 0 0,.slice none 0 0,.slice none 0 0]:=⟨by kernel_rfl,by kernel_rfl⟩
theorem apk:aQ 179:=aR func179 rfl
theorem aY.setAt {G:GH}:∀ {r:List Dat} {cs:List ah} {k:Nat} {d:Dat} {v:ah},aY G r cs->r[k]?=some d->au G d v->aY G r (cs.set k v)
 | [],_,_,_,_,_,h,_=>by simp at h
 | e :: r,cs,k,d,v,h,hk,hv=>by
  simp only [aY] at h |-
  obtain ⟨x,vs,rfl,h1,h2⟩:=h
  cases k with
  | zero =>
   simp only [Cc,pE] at hk
   subst hk;exact ⟨v,vs,rfl,hv,h2⟩
  | succ k=>exact ⟨x,vs.set k v,rfl,h1,aY.setAt h2 (by simpa using hk) hv⟩
theorem bZ.setAt {G:GH} {sz:Nat}:∀ {rows:List (List Dat)} {xs:List ah} {i k:Nat} {r:List Dat} {d:Dat} {v:ah},bZ G sz rows xs->rows[i]?=some r->r[k]?=some d->k < sz->au G d v->bZ G sz rows (xs.set (i*sz+k) v)
 | [],_,_,_,_,_,_,_,h,_,_,_=>by simp at h
 | q :: rows,xs,i,k,r,d,v,h,hr,hk,hs,hv=>by
  obtain ⟨css,rfl,h2,h3⟩:=h
  cases css with
  | nil=>simp at h2
  | cons c css =>
   obtain ⟨h4,h5⟩:=h3 0 q c rfl rfl;have h6:bZ G sz rows css.flatten:=⟨css,rfl,by simpa using h2,fun j r' cs hr' hc=>h3 (j+1) r' cs (by simpa using hr') (by simpa using hc)⟩
   have h7:∀ {c' x':List ah},aY G q c'->c'.length=sz->bZ G sz rows x'->bZ G sz (q :: rows) (c'++x'):=fun a b e=>by
    have h8:=((bZ.nil (G:=G) (sz:=sz)).snoc a b).append e
    simpa using h8
   rw [List.flatten_cons]
   cases i with
   | zero =>
    simp only [Cc,pE] at hr
    subst hr;rw [Nat.zero_mul,gI,List.set_append_left _ _ (by omega)];exact h7 (h4.setAt hk hv) (by rw [List.length_set];exact h5) h6
   | succ i =>
    rw [List.set_append_right _ _ (by rw [h5,Nat.succ_mul];omega),h5,show (i+1)*sz+k - sz=i*sz+k by rw [Nat.succ_mul];omega];exact h7 h4 h5 (bZ.setAt h6 (by simpa using hr) hk hs hv)
theorem aAw {G:GH} {l:List bX} {xs:List ah} {k:Nat} (h:bZ G 6 (l.map bX.dat) xs) (hk:k < l.length):∃ A c,xs[k*6+5]?=some (.slice A l[k].props.length c)∧au G (.sl 2 (l[k].props.map aL.dat)) (.slice A l[k].props.length c):=by
 obtain ⟨cs,hcl,hcx,hcr⟩:=h.at (k:=k) (r:=l[k].dat) (by simp [hk]);obtain ⟨A,c,rfl,hp⟩:=Sy hcr;exact ⟨A,c,hcx 5 _ rfl,hp⟩
theorem avX {G:GH} {l:List fO} {xs:List ah} {k:Nat} (h:bZ G 2 (l.map fO.dat) xs) (hk:k < l.length):∃ A n c,xs[k*2+1]?=some (.slice A n c)∧au G (.sl 4 (l[k].levels.map ql.dat)) (.slice A n c):=by
 obtain ⟨cs,hcl,hcx,hcr⟩:=h.at (k:=k) (r:=l[k].dat) (by simp [hk]);obtain ⟨v1,vs,rfl,-,v2,vs2,rfl,h2,-⟩:=hcr;obtain ⟨A,n,c,rfl⟩:=au.form h2;exact ⟨A,n,c,hcx 1 _ rfl,h2⟩
theorem amb {p:Prop} (h:p:=by
 exact Dx HT Hb hG hv (iW aK) H rfl):p:=h
theorem amc {p:Prop} (h:p:=by
 exact xJ (by kernel_rfl) (iW aK) rfl rfl HT Hb hG hv Hr (uV) H):p:=h
theorem vG {p:Prop} (h:p:=by
 clear H;intro a H;refine aD ⟨rfl,?_⟩;exact amb):p:=h
theorem UN {p:Prop} (h:p:=by
 (iterate 15 (rcases i with _|i;(first|exact h|exact absurd hi (by decide)|exact absurd hc (by decide))));exact trivial):p:=h
theorem acO {p:Prop} (h:p:=by
 refine fP [] rfl trivial (by kernel_rfl) CB rfl rfl ?_;intro bH a w G1 hG HT H fin;exact kH H (Rf JW rfl fun _ H=>fin H iJ rfl)):p:=h
theorem acU {p:Prop} (h:p:=by
 refine fP [] rfl trivial (by kernel_rfl) yX rfl rfl ?_;intro bH a w G1 hG HT H fin;exact kH H (Rf JV rfl fun _ H=>fin H iJ rfl)):p:=h
theorem abC {p:Prop} (h:p:=by
 intro bH a w G1 hG HT H fin;exact kH H (Ro tH 0 rfl fun _ H=>fin H iJ rfl)):p:=h
theorem abD {p:Prop} (h:p:=by
 intro bH a w G1 hG HT H fin;exact kH H (Ro Da 0 rfl fun _ H=>fin H iJ rfl)):p:=h
theorem abE {p:Prop} (h:p:=by
 clear H;rintro v14 Ew a w uV Hr H;refine aD ⟨rfl,?_⟩;exact amc):p:=h
set_option maxHeartbeats 2000000 in
theorem anE (G:GH) (w0:World) (hG:Hold G w0) (s:BZ) (a1 b1_ c1 d1:ah) (hR:Ap G s a1 b1_ c1 d1) (z1:s.styles.length<=4294967296) (z2:s.lists.length<=4294967296) (z3:s.comments.length<=4294967296) (z4:s.vars.length<=4294967296) (z5:∀ x∈s.styles,x.props.length<=4294967296) (z6:∀ x∈s.lists,x.levels.length<=4294967296) :
  Calls prog 116 #[.agg #[a1,b1_,c1,d1]] w0 (bK w0 G fun u G'=>∃ a' b' c' d',u=.agg #[a',b',c',d']∧Ap G' s a' b' c' d'):=by
 have hml:maxLen=9223372036854775807:=rfl;obtain ⟨aA,an,ac,rfl⟩:=hR.st.form;obtain ⟨bA,bn,bc,rfl⟩:=hR.li.form;obtain ⟨cA,cn,cc,rfl⟩:=hR.cm.form;obtain ⟨dA,dn,dc,rfl⟩:=hR.va.form;obtain ⟨hs1,hs2,hs3,hs4⟩:=hR;refine eN [(0,_)] func116 rfl ntmps116 rfl rfl hG ?_;intro a H;refine cO (fun _ K1=>?_);refine dW (cs:=[_,_,_,_]) H wn rfl rfl rfl ?_;clear H;intro b1 a w hb1 H;refine dO BF H wn rfl ?_;clear H;intro b2 a w hb2 H;refine K1 _ _ ?_;clear K1;refine bD (fun _ K2=>?_);have H:=H.eD (Pl:=[_,_]) (dN:=[_,_]) [1,0] (by decide) rfl;obtain ⟨Ga,hma,hb1',H⟩:=H.fB;have hga:=fun j v hj=>pR hb1' 0 [.slice aA an ac,.slice bA bn bc,.slice cA cn cc,.slice dA dn dc] rfl j v hj;replace hs1:=hs1.mono hma;replace hs2:=hs2.mono hma;replace hs3:=hs3.mono hma;replace hs4:=hs4.mono hma
 have iW:Jd (fun (aK:Nat->ah × OL) (bT:Nat) (v:ah) (G:GH)=>match bT with|0=>v=(aJ b1 0)|1=>v=.slice aA an ac|2=>v=(aK 2).1∧∃ xs,cu 192 6 v s.styles.length xs (aK 2).2∧bZ G 6 (s.styles.map bX.dat) xs|3=>v=(aJ b1 1)|4=>v=.slice bA bn bc|5=>v=(aK 5).1∧∃ xs,cu 93 2 v s.lists.length xs (aK 5).2∧bZ G 2 (s.lists.map fO.dat) xs|6=>v=(aJ b1 2)|7=>v=.slice cA cn cc|8=>au G (.sl 6 (s.comments.map jo.dat)) v|9=>v=(aJ b1 3)|10=>v=.slice dA dn dc|11=>au G (.sl 2 (s.vars.map mZ.dat)) v|12=>∃ c' d',v=.agg #[(aK 2).1,(aK 5).1,c',d']∧au G (.sl 6 (s.comments.map jo.dat)) c'∧au G (.sl 2 (s.vars.map mZ.dat)) d'|13=>∃ b,v=(aJ b 0)∧aK 13=((aJ b 0),[(b,.cells #[.slice none 0 0,.slice none 0 0,.slice none 0 0,.slice none 0 0] 36 (0,0))])|_=>True):=by intro aK bT v G G' hm h;(iterate 15 (rcases bT with _|bT;(first|exact h|exact let ⟨h1,xs,h2,h3⟩:=h;⟨h1,xs,h2,h3.mono hm⟩|exact au.mono hm h|exact let ⟨c',d',h1,h2,h3⟩:=h;⟨c',d',h1,h2.mono hm,h3.mono hm⟩)));exact trivial
 refine U4 [2,5,13] (hmx) [[],[0],[0,1],[],[3],ra 0 5,[],[6],ra 0 8,[],[9],ra 0 11,ra 0 12,[],ra 0 14] [14] (by kernel_rfl) (by kernel_rfl) (by decide) (by kernel_rfl) (fun (aK:Nat->ah × OL) (bT:Nat) (v:ah) (G:GH)=>match bT with|0=>v=(aJ b1 0)|1=>v=.slice aA an ac|2=>v=(aK 2).1∧∃ xs,cu 192 6 v s.styles.length xs (aK 2).2∧bZ G 6 (s.styles.map bX.dat) xs|3=>v=(aJ b1 1)|4=>v=.slice bA bn bc|5=>v=(aK 5).1∧∃ xs,cu 93 2 v s.lists.length xs (aK 5).2∧bZ G 2 (s.lists.map fO.dat) xs|6=>v=(aJ b1 2)|7=>v=.slice cA cn cc|8=>au G (.sl 6 (s.comments.map jo.dat)) v|9=>v=(aJ b1 3)|10=>v=.slice dA dn dc|11=>au G (.sl 2 (s.vars.map mZ.dat)) v|12=>∃ c' d',v=.agg #[(aK 2).1,(aK 5).1,c',d']∧au G (.sl 6 (s.comments.map jo.dat)) c'∧au G (.sl 2 (s.vars.map mZ.dat)) d'|13=>∃ b,v=(aJ b 0)∧aK 13=((aJ b 0),[(b,.cells #[.slice none 0 0,.slice none 0 0,.slice none 0 0,.slice none 0 0] 36 (0,0))])|_=>True) (fun m hm x y i v G hi hc h=>by
  have hm:m=2∨m=5∨m=13:=by simpa using hm
  rcases hm with rfl|rfl|rfl
  ·exact UN
  ·exact UN
  ·exact UN
  ) H ?_ ?_ ?_
 ·clear H;refine ay ?_ ?_ ?_ ?_ (ay ?_ ?_ ?_ ?_ (ay ?_ ?_ ?_ ?_ (bF ?_ (bF ?_ (bF ?_ cK)))))
  ·intro aK dM bH a w G1 fF _ _ aO hc hG HT hv;have H:=HT;clear aO;have Hb:=H.full;have H:=Hb;clear hc;refine kH H (Rf JV rfl ?_);exact vG
  ·intro aK dM bH a w G1 fF _ _ aO hc hG HT hv;have H:=HT;clear aO;have H:=H.aM (hv 0 6 (hc 0 (by decide)) rfl) rfl;have Hb:=H.full;have H:=Hb;clear hc;refine kH H (Rg tH rfl (aF hG (hga 0 _ rfl)) ?_);exact vG
  ·exact xG
  ·intro aK dM bH a w G1 fF _ _ aO hc hG HT hv;have H:=HT;clear aO;have Hb:=H.full;have H:=Hb;clear hc;refine kH H (Rf JW rfl ?_);exact vG
  ·intro aK dM bH a w G1 fF _ _ aO hc hG HT hv;have H:=HT;clear aO;have H:=H.aM (hv 3 9 (hc 3 (by decide)) rfl) rfl;have Hb:=H.full;have H:=Hb;clear hc;refine kH H (Rg Da rfl (aF hG (hga 1 _ rfl)) ?_);exact vG
  ·exact xG
  ·intro aK dM bH a w G1 fF _ _ aO hc hG HT hv;have H:=HT;clear aO;have Hb:=H.full;have H:=Hb;clear hc;refine kH H (Rf VK rfl ?_);exact vG
  ·intro aK dM bH a w G1 fF _ _ aO hc hG HT hv;have H:=HT;clear aO;have H:=H.aM (hv 6 12 (hc 6 (by decide)) rfl) rfl;have Hb:=H.full;have H:=Hb;clear hc;refine kH H (Rg FJ rfl (aF hG (hga 2 _ rfl)) ?_);exact vG
  ·intro aK dM bH a w G1 fF _ _ aO hc hG HT hv;have H:=HT;clear aO;have H:=H.aM (hv 7 13 (hc 7 (by decide)) rfl) rfl;have Hb:=H.full;have H:=Hb;clear hc;refine s_call aph H wn rfl (anp _ _ H.ro _ _ _ _ (hs3.mono hG) (by simpa using z3)) rfl ?_;exact abE
  ·intro aK dM bH a w G1 fF _ _ aO hc hG HT hv;have H:=HT;clear aO;have Hb:=H.full;have H:=Hb;clear hc;refine kH H (Rf VL rfl ?_);exact vG
  ·intro aK dM bH a w G1 fF _ _ aO hc hG HT hv;have H:=HT;clear aO;have H:=H.aM (hv 9 15 (hc 9 (by decide)) rfl) rfl;have Hb:=H.full;have H:=Hb;clear hc;refine kH H (Rg zo rfl (aF hG (hga 3 _ rfl)) ?_);exact vG
  ·intro aK dM bH a w G1 fF _ _ aO hc hG HT hv;have H:=HT;clear aO;have H:=H.aM (hv 10 16 (hc 10 (by decide)) rfl) rfl;have Hb:=H.full;have H:=Hb;clear hc;refine s_call apj H wn rfl (anr _ _ H.ro _ _ _ _ (hs4.mono hG) (by simpa using z4)) rfl ?_;clear H;rintro v17 BN a w Ib afQ H;refine aD ⟨rfl,?_⟩;exact xJ (by kernel_rfl) (iW aK) rfl rfl HT Hb hG hv afQ (Ib) H
  ·intro aK dM bH a w G1 fF _ _ aO hc hG HT hv;have H:=HT;clear aO;obtain ⟨u8,Bg,pW⟩:=hv 2 8 (hc 2 (by decide)) rfl;(try dsimp only at pW);obtain ⟨h8,Td,D9,Qs⟩:=pW;obtain ⟨sA,sc,rfl,-,-⟩:=D9.shape;have H:=H.iI Bg;obtain ⟨Zj,Ij,xQ⟩:=hv 5 11 (hc 5 (by decide)) rfl;(try dsimp only at xQ);obtain ⟨h11,LB,zU,J7⟩:=xQ;obtain ⟨lA,lc,rfl,-,-⟩:=zU.shape;have H:=H.iI Ij;obtain ⟨u14,NA,uV⟩:=hv 8 14 (hc 8 (by decide)) rfl;(try dsimp only at uV);obtain ⟨Tg,n14,c14,rfl⟩:=uV.form;have H:=H.iI NA;obtain ⟨u17,Xy,Ib⟩:=hv 11 17 (hc 11 (by decide)) rfl;(try dsimp only at Ib);obtain ⟨A17,n17,c17,rfl⟩:=Ib.form;have H:=H.iI Xy;have Hb:=H.full;have H:=Hb;clear hc;refine jD aAs [_,_,_,_] H wn rfl rfl rfl rfl ?_;clear H;intro a H;refine aD ⟨rfl,?_⟩;exact xJ (by kernel_rfl) (iW aK) rfl rfl HT Hb hG hv (fun _ _ h=>h) (⟨_,_,by rw [<- h8,<- h11],uV,Ib⟩) H
  ·exact xG
  exact GL
 ·clear H;refine ay ?_ ?_ ?_ ?_ (ay ?_ ?_ ?_ ?_ (ay ?_ ?_ ?_ ?_ (bF ?_ (bF ?_ (bF ?_ cK)))))
  ·intro hB;exact gL
  ·intro hB;exact gL
  ·intro _ aK dM bH a w G1 fF _ hc hG HT hv;have H:=HT;have H:=H.aM (hv (.bool false,[]) 1 7 (by decide) (hc 1 (by decide)) rfl) rfl;have Hb:=H.full;have H:=Hb;clear hc;refine gy apf (Li:=dM) (L:=[]) (H.cast (ig _).symm) wn rfl (anz _ _ (wT H.ro) _ _ _ _ (hs1.mono hG) (by simpa using z1)) rfl ?_;clear H;rintro v8 G8 L8 a w ⟨Td,D9,Qs⟩ rW H;rw [bQ] at D9;have H:=H.perm pK;refine aD ⟨rfl,(v8,L8),?_⟩;exact xK (by kernel_rfl) (iW (mJ aK 2 (v8,L8))) rfl HT Hb hG (fun j e h1 h2 h3=>hv (v8,L8) j e h1 h2 h3) rW (⟨rfl,Td,D9,Qs⟩) H
  ·intro hB;exact gL
  ·intro hB;exact gL
  ·intro _ aK dM bH a w G1 fF _ hc hG HT hv;have H:=HT;have H:=H.aM (hv (.bool false,[]) 4 10 (by decide) (hc 4 (by decide)) rfl) rfl;have Hb:=H.full;have H:=Hb;clear hc;refine gy apg (Li:=dM) (L:=[]) (H.cast (ig _).symm) wn rfl (anx _ _ (wT H.ro) _ _ _ _ (hs2.mono hG) (by simpa using z2)) rfl ?_;clear H;rintro v11 zq F6 a w ⟨LB,zU,J7⟩ sU H;rw [bQ] at zU;have H:=H.perm pK;refine aD ⟨rfl,(v11,F6),?_⟩;exact xK (by kernel_rfl) (iW (mJ aK 5 (v11,F6))) rfl HT Hb hG (fun j e h1 h2 h3=>hv (v11,F6) j e h1 h2 h3) sU (⟨rfl,LB,zU,J7⟩) H
  ·intro hB;exact gL
  ·intro hB;exact gL
  ·intro hB;exact gL
  ·intro hB;exact gL
  ·intro hB;exact gL
  ·intro hB;exact gL
  ·intro hB;exact gL
  ·intro _ aK dM bH a w G1 fF _ hc hG HT hv;have H:=HT;have Hb:=H.full;have H:=Hb;clear hc;refine dO BF H wn rfl ?_;clear H;intro b3 a w hb3 H;refine aD ⟨rfl,((aJ b3 0),[(b3,.cells #[.slice none 0 0,.slice none 0 0,.slice none 0 0,.slice none 0 0] 36 (0,0))]),?_⟩;exact xK (by kernel_rfl) (iW (mJ aK 13 ((aJ b3 0),[(b3,.cells #[.slice none 0 0,.slice none 0 0,.slice none 0 0,.slice none 0 0] 36 (0,0))]))) rfl HT Hb hG (fun j e h1 h2 h3=>hv ((aJ b3 0),[(b3,.cells #[.slice none 0 0,.slice none 0 0,.slice none 0 0,.slice none 0 0] 36 (0,0))]) j e h1 h2 h3) (fun _ _ h=>h) (⟨b3,rfl,rfl⟩) H
  intro hB;exact gL
 clear H;intro aK a w G nJ H hv
 simp only [iM,List.flatMap_cons,List.flatMap_nil,cond_true,ig,iZ] at H
 obtain ⟨u3,hu3,hp3⟩:=hv 13 3 (by decide) rfl;(try dsimp only at hp3);obtain ⟨b3,rfl,e13⟩:=hp3;have H:=H.iI hu3;obtain ⟨u8,Bg,pW⟩:=hv 2 8 (by decide) rfl;(try dsimp only at pW);obtain ⟨h8,Td,D9,Qs⟩:=pW;obtain ⟨sA,sc,rfl,-,-⟩:=D9.shape;have H:=H.iI Bg;obtain ⟨Zj,Ij,xQ⟩:=hv 5 11 (by decide) rfl;(try dsimp only at xQ);obtain ⟨h11,LB,zU,J7⟩:=xQ;obtain ⟨lA,lc,rfl,-,-⟩:=zU.shape;have H:=H.iI Ij;obtain ⟨u18,NC,Fb⟩:=hv 12 18 (by decide) rfl;(try dsimp only at Fb);obtain ⟨aCV,aCW,rfl,hc18,agr⟩:=Fb;obtain ⟨eA,en,ec,rfl⟩:=hc18.form;obtain ⟨fA,fn,fc,rfl⟩:=agr.form;have H:=H.iI NC;clear hv;obtain ⟨⟨vS,LS⟩,eS⟩:∃ y,y=aK 2:=⟨_,rfl⟩;obtain ⟨⟨vL,LL⟩,eL⟩:∃ y,y=aK 5:=⟨_,rfl⟩;rw [<- eS,<- eL,e13] at H;rw [<- eS] at D9 h8;rw [<- eL] at zU h11;dsimp only at H D9 zU h8 h11;subst h8;subst h11;rw [<- iZ] at H;have H:=H.perm (pK (l₁:=LS++LL) (l₂:=[_,_]));dsimp only [lca,bJ] at H;refine bC BF 0 (vs:=[_,_,_,_]) H wn rfl ?_;clear H;intro w H;refine aD ⟨rfl,?_⟩;refine K2 _ _ ?_;clear K2;refine kP H (SQ fun _ K3=>SR fun _ K4=>bq JV tH 0 rfl rfl (Rl mX rfl (Rm rfl (Kz K4 (SB ?_)))));clear H K4;intro a H;skip;refine eX (ι:=Nat × List ah × OL × GH) (Tc:=[(2,_),(3,_),(21,_)]) (Lc:=[(_,_),(_,_)]) (fun gh=>[(22,vi gh.1)]) (fun gh=>[]++(gh.2.2.1++LL)) (fun gh=>gh.2.2.2) (fun gh=>gh.1<=s.styles.length∧cu 192 6 (.slice sA s.styles.length sc) s.styles.length gh.2.1 gh.2.2.1∧bZ gh.2.2.2 6 (s.styles.map bX.dat) gh.2.1∧(∀ b o,G b=some o->gh.2.2.2 b=some o)) (fun gh=>s.styles.length - gh.1) ((0,Td,LS,G)) (by exact H.sub ⟨rfl,rfl,rfl,rfl,aB⟩) ?_ ?_
 ·exact ⟨kE _,D9,Qs,fun _ _ h=>h⟩
 clear H;rintro ⟨k,xs,Lo,g⟩ a w hI H;dsimp only at hI H;obtain ⟨hk,hrw,fG,hgm⟩:=hI;dsimp only [lca,bJ] at H;refine kP H (SR fun _ K5=>Rc rfl (Kz K5 (SQ fun _ K6=>Cd rfl ?_ ?_))) <;> clear H K5
 ·intro h23 a H
  try have Bq:=dT h23
  have hk2:k < s.styles.length:=by omega
  obtain ⟨bs,rfl⟩:=hrw.ptr (by omega);obtain ⟨pA,pc,hpx,hpr⟩:=aAw fG hk2;obtain ⟨cur,-,rfl,hcur,hset⟩:=hrw.set1;have hpz:=z5 _ (jB hk2);refine kP H (Kc K6 (SQ fun _ K7=>SB (SR fun _ K8=>Rm rfl (aj K8 rfl ?_))));clear H K6 K8;intro a H
  have yX:BS (fun (bT:Nat) (v:ah) (G:GH)=>match bT with|0=>v=(aJ b3 0)|1=>v=.slice (some ⟨bs,0,none⟩) s.styles.length sc|2=>v=vi k|3=>v=(aJ b3 0)|4=>v=.slice (some ⟨bs,0,none⟩) s.styles.length sc|5=>v=vi k|6=>v=(aJ bs (0+k*6))|7=>v=(aJ bs (0+k*6+5))|8=>v=.slice pA s.styles[k].props.length pc|9=>au G (.sl 2 (s.styles[k].props.map aL.dat)) v|_=>True):=by intro bT v G G' hm h;(iterate 13 (rcases bT with _|bT;(first|exact h|exact au.mono hm h)));exact trivial
  refine Au (hmx) [[],[0],[],[],[3],[],[3,4,5],ra 3 4,ra 3 5,ra 3 6,ra 0 10,ra 0 11,ra 0 12] [10,11,12] (by kernel_rfl) (by kernel_rfl) _ yX H ?_ ?_
  ·clear H;refine ay ?_ ?_ ?_ ?_ (ay ?_ ?_ ?_ ?_ (ay ?_ ?_ (bR rfl) (bR rfl) (bF (bR rfl) cK)))
   ·exact acU
   ·refine fP [(0,25,_)] rfl ⟨fun _ _ h=>h,aB⟩ (by kernel_rfl) yX rfl rfl ?_;exact abC
   ·refine fP [] rfl trivial (by kernel_rfl) yX rfl rfl ?_;exact Mq
   ·exact acU
   ·refine fP [(3,28,_)] rfl ⟨fun _ _ h=>h,aB⟩ (by kernel_rfl) yX rfl rfl ?_;exact abC
   ·refine fP [] rfl trivial (by kernel_rfl) yX rfl rfl ?_;exact Mq
   ·refine fP [(4,29,_),(5,30,_)] rfl ⟨fun _ _ h=>h,fun _ _ h=>h,aB⟩ (by kernel_rfl) yX rfl rfl ?_;intro bH a w G1 hG HT H fin;exact kH H (Ri mX kZ rfl rfl fun _ H=>fin H iJ rfl)
   ·refine fP [(6,31,_)] rfl ⟨fun _ _ h=>h,aB⟩ (by kernel_rfl) yX rfl rfl ?_;intro bH a w G1 hG HT H fin;exact kH H (Rf Qb rfl fun _ H=>fin H iJ rfl)
   ·refine fP [(7,32,_)] rfl ⟨fun _ _ h=>h,aB⟩ (by kernel_rfl) yX rfl rfl ?_;intro bH a w G1 hG HT H fin;refine qE vk H wn rfl (hrw.at H.hp (fun x hx=>gK _ (gK _ (List.mem_append_left _ hx))) (by rw [gI];exact hpx)) rfl ?_;exact jk
   refine fP [(8,33,_)] rfl ⟨fun _ _ h=>h,aB⟩ (by kernel_rfl) yX rfl rfl ?_;intro bH a w G1 hG HT H fin;refine s_call PX H wn rfl (Va _ _ H.ro _ _ _ _ (hpr.mono hG) (by simpa using hpz)) rfl ?_;clear H;rintro v34 LG a w Fe asf H;exact fin H asf (Fe)
  clear H;intro a w G lF H hv;have H:=H.aM (hv 1 26 rfl rfl) rfl;have H:=H.aM (hv 2 27 rfl rfl) rfl;obtain ⟨u34,auV,Fe⟩:=hv 9 34 (by decide) rfl;(try dsimp only at Fe);obtain ⟨Es,n34,c34,rfl⟩:=Fe.form;have H:=H.iI auV;clear hv;refine kH H (Ri mX kZ rfl rfl (Rf Qb rfl ?_));clear H;intro a H;refine KW vk 2 (c:=cur) (vs:=[.slice Es n34 c34]) (cur.set (k*6+5) (.slice Es n34 c34)) H wn rfl rfl rfl rfl rfl rfl (by simp;omega) (by rw [gI];rfl) ?_;clear H;intro w H;dsimp only [List.set,List.cons_append,List.nil_append] at H;have hrwn:=hset (k*6+5) (.slice Es n34 c34);have atj:=(fG.mono lF).setAt (i:=k) (k:=5) (r:=s.styles[k].dat) (v:=.slice Es n34 c34) (by simp [hk2]) rfl (by decide) Fe;refine aD ⟨rfl,?_⟩;refine K7 _ _ ?_;clear K7;refine kP H (SC (Rd rfl (Rm rfl ?_)));clear H;intro a H;refine aD ?_;refine dG ((k+1,xs.set (k*6+5) (.slice Es n34 c34),[(bs,.cells (cur.set (k*6+5) (.slice Es n34 c34)).toArray 192 (0,0))],_)) (by exact H.sub ⟨rfl,rfl,rfl,rfl,aB⟩) ?_
  (try dsimp only);exact ⟨by omega,hrwn,atj,fun b o h=>lF b o (hgm b o h)⟩
 intro h23 a H
 try have Bq:=dF h23
 obtain rfl:k=s.styles.length:=by omega
 refine dP ?_;refine K3 _ _ ?_;clear K3;refine kP H (SQ fun _ K9=>SR fun _ aW=>bq JW Da 0 rfl rfl (Rl yu rfl (Rm rfl (Kz aW (SB ?_)))));clear H aW;intro a H;skip;refine eX (ι:=Nat × List ah × OL × GH) (Tc:=[(2,_),(3,_),(40,_)]) (Lc:=[(_,_),(_,_)]) (fun gh=>[(41,vi gh.1)]) (fun gh=>[]++(Lo++gh.2.2.1)) (fun gh=>gh.2.2.2) (fun gh=>gh.1<=s.lists.length∧cu 93 2 (.slice lA s.lists.length lc) s.lists.length gh.2.1 gh.2.2.1∧bZ gh.2.2.2 2 (s.lists.map fO.dat) gh.2.1∧(∀ b o,g b=some o->gh.2.2.2 b=some o)) (fun gh=>s.lists.length - gh.1) ((0,LB,LL,g)) (by exact H.sub ⟨rfl,rfl,rfl,rfl,aB⟩) ?_ ?_
 ·exact ⟨kE _,zU,J7.mono hgm,fun _ _ h=>h⟩
 clear H;rintro ⟨k2,xs2,Lo2,g2⟩ a w hI H;dsimp only at hI H;obtain ⟨hk2,hrw2,zR,iF⟩:=hI;dsimp only [lca,bJ] at H;refine kP H (SR fun _ bM=>Rc rfl (Kz bM (SQ fun _ bU=>Cd rfl ?_ ?_))) <;> clear H bM
 ·intro jM a H
  try have p42:=dT jM
  have hk3:k2 < s.lists.length:=by omega
  obtain ⟨bl,rfl⟩:=hrw2.ptr (by omega);obtain ⟨qA,qn,qc,hqx,hqr⟩:=avX zR hk3;obtain ⟨EI,-,rfl,aCb,auL⟩:=hrw2.set1;have hqz:=z6 _ (jB hk3);refine kP H (Kc bU (SQ fun _ bY=>SB (SR fun _ cZ=>Rm rfl (aj cZ rfl ?_))));clear H bU cZ;intro a H
  have CB:BS (fun (bT:Nat) (v:ah) (G:GH)=>match bT with|0=>v=(aJ b3 1)|1=>v=.slice (some ⟨bl,0,none⟩) s.lists.length lc|2=>v=vi k2|3=>v=(aJ b3 1)|4=>v=.slice (some ⟨bl,0,none⟩) s.lists.length lc|5=>v=vi k2|6=>v=(aJ bl (0+k2*2))|7=>v=(aJ bl (0+k2*2+1))|8=>v=.slice qA qn qc|9=>au G (.sl 4 (s.lists[k2].levels.map ql.dat)) v|_=>True):=by intro bT v G G' hm h;(iterate 13 (rcases bT with _|bT;(first|exact h|exact au.mono hm h)));exact trivial
  refine Au (hmx) [[],[0],[],[],[3],[],[3,4,5],ra 3 4,ra 3 5,ra 3 6,ra 0 10,ra 0 11,ra 0 12] [10,11,12] (by kernel_rfl) (by kernel_rfl) _ CB H ?_ ?_
  ·clear H;refine ay ?_ ?_ ?_ ?_ (ay ?_ ?_ ?_ ?_ (ay ?_ ?_ (bR rfl) (bR rfl) (bF (bR rfl) cK)))
   ·exact acO
   ·refine fP [(0,44,_)] rfl ⟨fun _ _ h=>h,aB⟩ (by kernel_rfl) CB rfl rfl ?_;exact abD
   ·refine fP [] rfl trivial (by kernel_rfl) CB rfl rfl ?_;exact Mq
   ·exact acO
   ·refine fP [(3,47,_)] rfl ⟨fun _ _ h=>h,aB⟩ (by kernel_rfl) CB rfl rfl ?_;exact abD
   ·refine fP [] rfl trivial (by kernel_rfl) CB rfl rfl ?_;exact Mq
   ·refine fP [(4,48,_),(5,49,_)] rfl ⟨fun _ _ h=>h,fun _ _ h=>h,aB⟩ (by kernel_rfl) CB rfl rfl ?_;intro bH a w G1 hG HT H fin;exact kH H (Ri yu BG rfl rfl fun _ H=>fin H iJ rfl)
   ·refine fP [(6,50,_)] rfl ⟨fun _ _ h=>h,aB⟩ (by kernel_rfl) CB rfl rfl ?_;intro bH a w G1 hG HT H fin;exact kH H (Rf VN rfl fun _ H=>fin H iJ rfl)
   ·refine fP [(7,51,_)] rfl ⟨fun _ _ h=>h,aB⟩ (by kernel_rfl) CB rfl rfl ?_;intro bH a w G1 hG HT H fin;refine qE Zi H wn rfl (hrw2.at H.hp (fun x hx=>gK _ (gK _ (List.mem_append_right _ hx))) (by rw [gI];exact hqx)) rfl ?_;exact jk
   refine fP [(8,52,_)] rfl ⟨fun _ _ h=>h,aB⟩ (by kernel_rfl) CB rfl rfl ?_;intro bH a w G1 hG HT H fin;refine s_call apk H wn rfl (anq _ _ H.ro _ _ _ _ (hqr.mono hG) (by simpa using hqz)) rfl ?_;clear H;rintro v53 G53 a w yV WE H;exact fin H WE (yV)
  clear H;intro a w G wK H hv;have H:=H.aM (hv 1 45 rfl rfl) rfl;have H:=H.aM (hv 2 46 rfl rfl) rfl;obtain ⟨u53,ND,yV⟩:=hv 9 53 (by decide) rfl;(try dsimp only at yV);obtain ⟨Aj,n53,c53,rfl⟩:=yV.form;have H:=H.iI ND;clear hv;refine kH H (Ri yu BG rfl rfl (Rf VN rfl ?_));clear H;intro a H;refine KW Zi (2+Lo.length) (c:=EI) (vs:=[.slice Aj n53 c53]) (EI.set (k2*2+1) (.slice Aj n53 c53)) H wn rfl (avq [_,_] Lo _) rfl rfl rfl rfl (by simp;omega) (by rw [gI];rfl) ?_;clear H;intro w H;have H:=H.cast (azJ [_,_] Lo _ _);have auK:=auL (k2*2+1) (.slice Aj n53 c53);have atl:=(zR.mono wK).setAt (i:=k2) (k:=1) (r:=s.lists[k2].dat) (v:=.slice Aj n53 c53) (by simp [hk3]) rfl (by decide) yV;refine aD ⟨rfl,?_⟩;refine bY _ _ ?_;clear bY;refine kP H (SC (Rd rfl (Rm rfl ?_)));clear H;intro a H;refine aD ?_;refine dG ((k2+1,xs2.set (k2*2+1) (.slice Aj n53 c53),[(bl,.cells (EI.set (k2*2+1) (.slice Aj n53 c53)).toArray 93 (0,0))],_)) (by exact H.sub ⟨rfl,rfl,rfl,rfl,aB⟩) ?_
  (try dsimp only);exact ⟨by omega,auK,atl,fun b o h=>wK b o (iF b o h)⟩
 intro jM a H
 try have p42:=dF jM
 obtain rfl:k2=s.lists.length:=by omega
 refine dP ?_;refine K9 _ _ ?_;clear K9;refine cO (fun _ dQ=>?_);refine bP BF (cs:=[_,_,_,_]) H wn rfl rfl (H.hp.dx 0 rfl rfl) rfl ?_;clear H;intro a H;refine bC BF 1 (vs:=[_,_,_,_]) H wn rfl ?_;clear H;intro w H;refine dQ _ _ ?_;clear dQ;refine eO ?_;have H:=H.un (A:=[_,_]);obtain ⟨Gr,hmr,Ih,H⟩:=St.qp (Li:=[_,_]++Lo) H hrw2 (rows:=s.lists.map fO.dat) (by simp) zR;obtain ⟨Gs,hms,auv,H⟩:=St.qp (Li:=[_,_]) H hrw (rows:=s.styles.map bX.dat) (by simp) ((fG.mono iF).mono hmr);refine (leave1 H results116 (.cons (ny BF (cs:=[_,_,_,_]) H rfl rfl (H.hp.dx 1 rfl rfl)) .nil) ?_).1;exact H.rt ⟨_,_,_,_,rfl,auv,Ih.mono hms,(((hc18.mono hgm).mono iF).mono hmr).mono hms,(((agr.mono hgm).mono iF).mono hmr).mono hms⟩
theorem aeX:aQ 60:=aR func60 rfl
theorem aou:aQ 116:=aR func116 rfl
theorem Y3:qK prog 38 [(0,1),(1,5),(6,1),(7,4)] [.slice none 0 0,.slice none 0 0,.int .i64 0,.int .i64 0,.slice none 0 0,.slice none 0 0,.slice none 0 0,.slice none 0 0,.slice none 0 0,.slice none 0 0,.slice none 0 0]:=⟨by kernel_rfl,by kernel_rfl⟩
theorem ant (G:GH) (w0:World) (hO:gH G [] w0) (l:List ak) (v:ah) (hv:au G (.sl 11 (l.map ak.dat)) v) (hz:bO l<=4294967296) :
  Calls prog 80 #[v] w0 (fU w0 G [] fun u G' L'=>∃ xs,cu 68 11 u l.length xs L'∧bZ G' 11 (l.map ak.dat) xs):=by
 have ih:=Vb 4294967297 (by omega);have hl:=FN l;refine jc (N:=5) (T:=[(0,_)]) func80 rfl ntmps80 rfl rfl hO ?_;intro a H;refine kP H (SR fun _ K1=>aj K1 rfl (SR fun _ K2=>Rm rfl ?_));clear H K1;intro a H;refine gy aez (Li:=[]) (L:=[]) H wn rfl (aeo (fun x=>x) _ _ (wT H.ro) l _ _ hv (by omega) (fun y hy=>adF (n:=4294967296) (Vb 4294967296 (by omega)) (by omega) y (by have:=ZB hy;omega))) rfl ?_;clear H;rintro v4 G4 L4 a w ⟨xs4,auB,atg⟩ Bb H;dsimp only [List.nil_append] at H;exact kH H (aj K2 rfl (LR results80 rfl fun H=>H.hp.fQ ⟨xs4,auB,atg⟩))
def akW (G:GH) (D:jO) (d:gG) (L:OL):Prop :=
 ∃ xf Lf xr Lr,L=Lf++Lr∧cu 68 11 (cB D.f) d.flow.length xf Lf∧bZ G 11 (d.flow.map ak.dat) xf∧cu 102 3 (cB D.r) d.revs.length xr Lr∧bZ G 3 (d.revs.map bW.dat) xr ∧
  jy G d.fin (cB D.p) (cB D.d) (cB D.y)∧D.ins=d.fin.marks.ins∧D.move=d.fin.marks.move∧Ap G d.kY (cB D.s1) (cB D.s2) (cB D.s3) (cB D.s4)
theorem abj {p:Prop} (h:p:=by
 (iterate 14 (rcases i with _|i;(first|exact h|exact absurd hi (by decide)|exact absurd hc (by decide))));exact trivial):p:=h
set_option maxHeartbeats 2000000 in
theorem aoa (G:GH) (w0:World) (hO:gH G [] w0) (D:jO) (d:gG) (hR:pz G D d) (hz:Al d) :
  Calls prog 63 #[D.val] w0 (fU w0 G [] fun u G' L'=>∃ D':jO,u=D'.val∧akW G' D' d L'):=by
 obtain ⟨hfl,hhd,hins,hmv,qU,hst⟩:=hR;obtain ⟨zf,zh,zr,zt,zs,I4⟩:=hz;refine jc (N:=16) (T:=[(0,_)]) func63 rfl ntmps63 rfl rfl hO ?_;intro a H;refine cO (fun _ K1=>?_);refine dW (cs:=[_,_,_,_,_,_,_,_,_,_,_]) H wn rfl rfl rfl ?_;clear H;intro b1 a w hb1 H;refine dO jf H wn rfl ?_;clear H;intro b2 a w hb2 H;refine K1 _ _ ?_;clear K1;refine bD (fun _ K2=>?_);have H:=H.eD (Pl:=[_,_]) (dN:=[_,_]) [1,0] (by decide) rfl;obtain ⟨Ga,hma,hb1',H⟩:=H.fB;have hga:=fun j v hj=>pR hb1' 0 D.cells rfl j v hj;replace hfl:=hfl.mono hma;replace hhd:=hhd.mono hma;replace qU:=qU.mono hma;replace hst:=hst.mono hma
 have iW:Jd (fun (aK:Nat->ah × OL) (bT:Nat) (v:ah) (G:GH)=>match bT with|0=>v=(aJ b1 0)|1=>v=cB D.f|2=>v=(aK 2).1∧∃ xs,cu 68 11 v d.flow.length xs (aK 2).2∧bZ G 11 (d.flow.map ak.dat) xs|3=>v=(aJ b1 1)|4=>v=rX d.fin (cB D.p) (cB D.d) (cB D.y)|5=>∃ p y z,v=.agg #[p,vi d.fin.marks.ins,vi d.fin.marks.move,y,z]∧jy G d.fin p y z|6=>v=(aJ b1 6)|7=>v=cB D.r|8=>v=(aK 8).1∧∃ xs,cu 102 3 v d.revs.length xs (aK 8).2∧bZ G 3 (d.revs.map bW.dat) xs|9=>v=(aJ b1 7)|10=>v=.agg #[cB D.s1,cB D.s2,cB D.s3,cB D.s4]|11=>∃ a' b' c' d',v=.agg #[a',b',c',d']∧Ap G d.kY a' b' c' d'|_=>True):=by intro aK bT v G G' hm h;(iterate 14 (rcases bT with _|bT;(first|exact h|exact let ⟨h1,xs,h2,h3⟩:=h;⟨h1,xs,h2,h3.mono hm⟩|exact let ⟨p,y,z,h1,h2⟩:=h;⟨p,y,z,h1,h2.mono hm⟩|exact let ⟨p,q,y,z,h1,h2⟩:=h;⟨p,q,y,z,h1,h2.mono hm⟩)));exact trivial
 refine U4 [2,8] (hmx) [[],[0],[0,1],[],[3],ra 0 5,[],[6],ra 0 8,[],[9],ra 0 11,ra 0 12,ra 0 13] [12,13] (by kernel_rfl) (by kernel_rfl) (by decide) (by kernel_rfl) (fun (aK:Nat->ah × OL) (bT:Nat) (v:ah) (G:GH)=>match bT with|0=>v=(aJ b1 0)|1=>v=cB D.f|2=>v=(aK 2).1∧∃ xs,cu 68 11 v d.flow.length xs (aK 2).2∧bZ G 11 (d.flow.map ak.dat) xs|3=>v=(aJ b1 1)|4=>v=rX d.fin (cB D.p) (cB D.d) (cB D.y)|5=>∃ p y z,v=.agg #[p,vi d.fin.marks.ins,vi d.fin.marks.move,y,z]∧jy G d.fin p y z|6=>v=(aJ b1 6)|7=>v=cB D.r|8=>v=(aK 8).1∧∃ xs,cu 102 3 v d.revs.length xs (aK 8).2∧bZ G 3 (d.revs.map bW.dat) xs|9=>v=(aJ b1 7)|10=>v=.agg #[cB D.s1,cB D.s2,cB D.s3,cB D.s4]|11=>∃ a' b' c' d',v=.agg #[a',b',c',d']∧Ap G d.kY a' b' c' d'|_=>True) (fun m hm x y i v G hi hc h=>by
  have hm:m=2∨m=8:=by simpa using hm
  rcases hm with rfl|rfl
  ·exact abj
  ·exact abj
  ) H ?_ ?_ ?_
 ·clear H;refine ay ?_ ?_ ?_ ?_ (ay ?_ ?_ ?_ ?_ (ay ?_ ?_ ?_ ?_ (bF ?_ (bF ?_ cK))))
  ·intro aK dM bH a w G1 fF _ _ aO hc hG HT hv;have H:=HT;clear aO;have Hb:=H.full;have H:=Hb;clear hc;refine kH H (Rf vJ rfl ?_);exact vG
  ·intro aK dM bH a w G1 fF _ _ aO hc hG HT hv;have H:=HT;clear aO;have H:=H.aM (hv 0 3 (hc 0 (by decide)) rfl) rfl;have Hb:=H.full;have H:=Hb;clear hc;refine kH H (Rg kC rfl (aF hG (hga 0 _ rfl)) ?_);exact vG
  ·exact xG
  ·intro aK dM bH a w G1 fF _ _ aO hc hG HT hv;have H:=HT;clear aO;have Hb:=H.full;have H:=Hb;clear hc;refine kH H (Rf EL rfl ?_);exact vG
  ·intro aK dM bH a w G1 fF _ _ aO hc hG HT hv;have H:=HT;clear aO;have H:=H.aM (hv 3 6 (hc 3 (by decide)) rfl) rfl;have Hb:=H.full;have H:=Hb;clear hc;refine bP fH (cs:=[cB D.p,vi d.fin.marks.ins,vi d.fin.marks.move,cB D.d,cB D.y]) H wn rfl rfl (fun j v hj=>H.hp.aH (aF hG (by rw [<- hins,<- hmv] at hj;exact pR hb1' 1 _ rfl j v hj))) rfl ?_;exact vG
  ·intro aK dM bH a w G1 fF _ _ aO hc hG HT hv;have H:=HT;clear aO;have H:=H.aM (hv 4 7 (hc 4 (by decide)) rfl) rfl;have Hb:=H.full;have H:=Hb;clear hc;refine s_call PW H wn rfl (PG _ _ H.ro d.fin _ _ _ _ _ _ _ _ _ (hhd.mono hG) zh) rfl ?_;clear H;rintro v8 G8 a w pW rW H;refine aD ⟨rfl,?_⟩;exact xJ (by kernel_rfl) (iW aK) rfl rfl HT Hb hG hv rW (pW) H
  ·intro aK dM bH a w G1 fF _ _ aO hc hG HT hv;have H:=HT;clear aO;have Hb:=H.full;have H:=Hb;clear hc;refine kH H (Rf EM rfl ?_);exact vG
  ·intro aK dM bH a w G1 fF _ _ aO hc hG HT hv;have H:=HT;clear aO;have H:=H.aM (hv 6 9 (hc 6 (by decide)) rfl) rfl;have Hb:=H.full;have H:=Hb;clear hc;refine kH H (Rg zm rfl (aF hG (hga 6 _ rfl)) ?_);exact vG
  ·exact xG
  ·intro aK dM bH a w G1 fF _ _ aO hc hG HT hv;have H:=HT;clear aO;have Hb:=H.full;have H:=Hb;clear hc;refine kH H (Rf MS rfl ?_);exact vG
  ·intro aK dM bH a w G1 fF _ _ aO hc hG HT hv;have H:=HT;clear aO;have H:=H.aM (hv 9 12 (hc 9 (by decide)) rfl) rfl;have Hb:=H.full;have H:=Hb;clear hc;refine bP BF (cs:=[cB D.s1,cB D.s2,cB D.s3,cB D.s4]) H wn rfl rfl (fun j v hj=>H.hp.aH (aF hG (pR hb1' 7 _ rfl j v hj))) rfl ?_;exact vG
  ·intro aK dM bH a w G1 fF _ _ aO hc hG HT hv;have H:=HT;clear aO;have H:=H.aM (hv 10 13 (hc 10 (by decide)) rfl) rfl;have Hb:=H.full;have H:=Hb;clear hc;refine s_call aou H wn rfl (anE _ _ H.ro d.kY _ _ _ _ (hst.mono hG) zs I4.ln I4.cn I4.vn I4.pl I4.ll) rfl ?_;exact abE
  ·exact Mf
  exact GL
 ·clear H;refine ay ?_ ?_ ?_ ?_ (ay ?_ ?_ ?_ ?_ (ay ?_ ?_ ?_ ?_ (bF ?_ (bF ?_ cK))))
  ·intro hB;exact gL
  ·intro hB;exact gL
  ·intro _ aK dM bH a w G1 fF _ hc hG HT hv;have H:=HT;have H:=H.aM (hv (.bool false,[]) 1 4 (by decide) (hc 1 (by decide)) rfl) rfl;have Hb:=H.full;have H:=Hb;clear hc;refine gy VB (Li:=dM) (L:=[]) (H.cast (ig _).symm) wn rfl (ant _ _ (wT H.ro) d.flow _ (hfl.mono hG) (by omega)) rfl ?_;clear H;rintro v5 G5 L5 a w ⟨xs5,auC,ath⟩ lF H;have H:=H.perm pK;refine aD ⟨rfl,(v5,L5),?_⟩;exact xK (by kernel_rfl) (iW (mJ aK 2 (v5,L5))) rfl HT Hb hG (fun j e h1 h2 h3=>hv (v5,L5) j e h1 h2 h3) lF (⟨rfl,xs5,auC,ath⟩) H
  ·intro hB;exact gL
  ·intro hB;exact gL
  ·intro hB;exact gL
  ·intro hB;exact gL
  ·intro hB;exact gL
  ·intro _ aK dM bH a w G1 fF _ hc hG HT hv;have H:=HT;have H:=H.aM (hv (.bool false,[]) 7 10 (by decide) (hc 7 (by decide)) rfl) rfl;have Hb:=H.full;have H:=Hb;clear hc;refine gy aeX (Li:=dM) (L:=[]) (H.cast (ig _).symm) wn rfl (adG _ _ (wT H.ro) _ _ _ _ (qU.mono hG) (by simpa using zr)) rfl ?_;clear H;rintro v11 zq F6 a w ⟨LB,zU,J7⟩ sU H;rw [bQ] at zU;have H:=H.perm pK;refine aD ⟨rfl,(v11,F6),?_⟩;exact xK (by kernel_rfl) (iW (mJ aK 8 (v11,F6))) rfl HT Hb hG (fun j e h1 h2 h3=>hv (v11,F6) j e h1 h2 h3) sU (⟨rfl,LB,zU,J7⟩) H
  ·intro hB;exact gL
  ·intro hB;exact gL
  ·intro hB;exact gL
  ·intro hB;exact gL
  intro hB;exact gL
 clear H;intro aK a w G nJ H hv
 simp only [iM,List.flatMap_cons,List.flatMap_nil,cond_true,ig,iZ] at H
 obtain ⟨u5,Ik,vT⟩:=hv 2 5 (by decide) rfl;(try dsimp only at vT);obtain ⟨h5,xf,KA,WW⟩:=vT;obtain ⟨fA,fc,rfl,-,-⟩:=KA.shape;have H:=H.iI Ik;obtain ⟨u8,Bg,pW⟩:=hv 5 8 (by decide) rfl;(try dsimp only at pW);obtain ⟨p8,y8,z8,rfl,Ka⟩:=pW;obtain ⟨a1,a2,a3,rfl⟩:=Ka.props.form;obtain ⟨a4,a5,a6,rfl⟩:=Ka.bE.form;obtain ⟨a7,a8,a9,rfl⟩:=Ka.layers.form;have H:=H.iI Bg;obtain ⟨Zj,Ij,xQ⟩:=hv 8 11 (by decide) rfl;(try dsimp only at xQ);obtain ⟨h11,xr,KC,WX⟩:=xQ;obtain ⟨rA,rc,rfl,-,-⟩:=KC.shape;have H:=H.iI Ij;obtain ⟨u14,NA,uV⟩:=hv 11 14 (by decide) rfl;(try dsimp only at uV);obtain ⟨uo,q14,y14,z14,rfl,Nw⟩:=uV;obtain ⟨c1,c2,c3,rfl⟩:=Nw.st.form;obtain ⟨c4,c5,c6,rfl⟩:=Nw.li.form;obtain ⟨c7,c8,c9,rfl⟩:=Nw.cm.form;obtain ⟨d1,d2,d3,rfl⟩:=Nw.va.form;have H:=H.iI NA;clear hv;obtain ⟨⟨vF,LF⟩,eF⟩:∃ y,y=aK 2:=⟨_,rfl⟩;obtain ⟨⟨vR,LR⟩,eR⟩:∃ y,y=aK 8:=⟨_,rfl⟩;rw [<- eF,<- eR] at H;rw [<- eF] at KA h5;rw [<- eR] at KC h11;dsimp only at H KA KC h5 h11;subst h5;subst h11;rw [<- iZ] at H;have H:=H.perm (pK (l₁:=LF++LR) (l₂:=[_]));dsimp only [lca,bJ] at H;refine jD Y3 [_,_,_,_,_,_,_,_,_,_,_] H wn rfl rfl rfl rfl ?_;clear H;intro a H;refine bC jf 0 (vs:=[_,_,_,_,_,_,_,_,_,_,_]) H wn rfl ?_;clear H;intro w H;refine aD ⟨rfl,?_⟩;refine K2 _ _ ?_;clear K2;refine eO ?_;refine (leave1 H results63 (.cons (ny jf (cs:=[_,_,_,_,_,_,_,_,_,_,_]) H rfl rfl (H.hp.dx 0 rfl rfl)) .nil) ?_).1;exact H.hp.jY (L':=LF++LR) (Dn _ _) ⟨⟨(fA,d.flow.length,fc),(a1,a2,a3),(a4,a5,a6),(a7,a8,a9),(rA,d.revs.length,rc),(c1,c2,c3),(c4,c5,c6),(c7,c8,c9),(d1,d2,d3),d.fin.marks.ins,d.fin.marks.move⟩,rfl,xf,LF,xr,LR,rfl,KA,WW,KC,WX,Ka,rfl,rfl,Nw⟩
end Go.Proofs.YtdiflmikikiedaaGreat
