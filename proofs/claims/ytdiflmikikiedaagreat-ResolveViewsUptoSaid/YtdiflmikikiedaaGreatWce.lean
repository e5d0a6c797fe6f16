/-
  What the claim stands on, part 5: Mk24 Mg24 Gco De24 Dnn Rw24 Ni13 Mn Lay Srt Ms Ids Usd Rf0 Dlr Ccl Cst Dcl.
-/
import Derived.Test.YtdiflmikikiedaaGreatWcd
import Derived.Shelf.SlIterI.Nil
import Derived.Shelf.SortM.Plain
import Derived.Shelf.SortM.SortNone
namespace Go.Proofs.YtdiflmikikiedaaGreat
set_option linter.all false
open Go.Proofs.Tryz
set_option maxRecDepth 20000
set_option maxHeartbeats 4000000
open Go.RowKit
theorem aiX:∀ args w,(callFunc 211 args).run prog w=.ok (.enter 211 args) w:=enters func211 rfl (by kernel_rfl)
theorem ZB:∀ args w,(callFunc 62 args).run prog w=.ok (.enter 62 args) w:=enters func62 rfl (by kernel_rfl)
instance sG:Ty prog 242 2 16 [.int .i64 0,.bool false] true:=⟨by kernel_rfl,by kernel_rfl⟩
theorem aea:qE prog 242 [(0,1),(1,1)] [.int .i64 0,.bool false]:=⟨by kernel_rfl,by kernel_rfl⟩
theorem aiY:∀ args w,(callFunc 213 args).run prog w=.ok (.enter 213 args) w:=enters func213 rfl (by kernel_rfl)
instance ZQ:dR prog 242 0 0:=⟨by kernel_rfl⟩
instance Tk:dR prog 242 1 1:=⟨by kernel_rfl⟩
theorem aiZ:∀ args w,(callFunc 214 args).run prog w=.ok (.enter 214 args) w:=enters func214 rfl (by kernel_rfl)
theorem aja:∀ args w,(callFunc 215 args).run prog w=.ok (.enter 215 args) w:=enters func215 rfl (by kernel_rfl)
theorem aoG (G:GH) (w0:World) (hG:Hold G w0) (l:List fO) (p:fO→Bool) (v fv:aj) (hv:au G (.sl 2 (l.map fO.dat)) v) (hf:∀ x∈l,tH fv G x.dat (p x)) :
  Calls prog 211 #[v,fv] w0 (bB w0 G fun u G'=>u=vi (oC (l.findIdx? p))):=by
 obtain ⟨A,c,rfl,hc1,hc2,hg⟩:=hv.slice;have hml:maxLen=9223372036854775807:=rfl;rw [bO] at *;refine eN [(0,_),(1,_)] func211 rfl ntmps211 rfl rfl hG ?_;intro a H;refine kP H (SR fun _ K1=>aF K1 rfl (SQ fun _ K2=>SR fun _ K3=>Rm rfl (Rl uD rfl (Rm rfl (Kz K3 (SB ?_))))));clear H K1 K3;intro a H;skip;refine eH (ι:=Nat × GH) (Tc:=[(0,_),(1,_),(7,_)]) (Lc:=[]) (fun gh=>[(8,vi gh.1)]) (fun gh=>[]) (fun gh=>gh.2) (fun gh=>gh.1≤l.length∧(l.take gh.1).findIdx? p=none∧(∀ b o,G b=some o→gh.2 b=some o)) (fun gh=>l.length - gh.1) ((0,G)) (by exact (H).sub ⟨rfl,rfl,rfl,rfl,aL⟩) ?_ ?_
 ·exact ⟨by omega,rfl,fun _ _ h=>h⟩
 clear H;rintro ⟨k,g⟩ a w hI H;dsimp only at hI H;obtain ⟨hk,hno,hgm⟩:=hI;dsimp only [lca,bK] at H;refine kP H (SR fun _ K4=>Rc rfl (Kz K4 (SQ fun _ K5=>Cd rfl ?_ ?_))) <;> clear H K4
 ·intro h9 a H
  try have p9:=dT h9
  have hk2:k < l.length:=by omega
  obtain ⟨b,o,cs,rfl,hcl,hrow,hrep⟩:=hg k l[k].dat (by simp [hk2]);obtain rfl:=KG hrep;replace hrow:=fun j u hj=>aG hgm (hrow j u hj);refine kP H (Kc K5 (SQ fun _ K6=>SB (SR fun _ K7=>Rm rfl (aF K7 rfl (SR fun _ K8=>Rm rfl (Rm rfl (Rm rfl (Ri uD oG rfl rfl ?_))))))));clear H K5 K7;intro a H;refine aR oG (cs:=[_,_]) H wn rfl rfl (fun j v hj=>H.hp.aH (hrow j v hj)) rfl ?_;clear H;intro a H;refine jF H wn rfl rfl (hf _ (lH hk2) _ _ _ hgm H.ro (hrep.mono hgm)) rfl ?_;clear H;rintro v16 qC a w rfl jW H;refine K8 _ _ ?_;clear K8;refine mW H rfl ?_ ?_
  ·intro h16
   try have p16:=dT h16
   refine kP H (SR fun _ K9=>Rm rfl (aF K9 rfl ?_));clear H K9;intro a H;refine lr H results211 rfl ?_
   first
    | exact H.rt (by rw [wm hk2 hno h16];rfl)
    | exact H.rt (by rw [show l.take k=l from gu (by omega)] at hno;rw [hno];rfl)
  intro h16
  try have p16:=dF h16
  refine kP H (Kc K6 (SC (Rd rfl (Rm rfl ?_))));clear H K6;intro a H;refine aC ?_;refine dx ((k+1,qC)) (by exact (H).sub ⟨rfl,rfl,rfl,rfl,aL⟩) ?_
  (try dsimp only);exact ⟨by omega,EG hk2 hno h16,fun b o h=>jW b o (hgm b o h)⟩
 intro h9 a H
 try have p9:=dF h9
 refine jI ?_;refine K2 _ _ ?_;clear K2;refine kP H (SR fun _ eU=>aF eU rfl ?_);clear H eU;intro a H;refine lr H results211 rfl ?_
 first
  | exact H.rt (by rw [wm hk2 hno h16];rfl)
  | exact H.rt (by rw [show l.take k=l from gu (by omega)] at hno;rw [hno];rfl)
theorem YB (G:GH) (w0:World) (hG:Hold G w0) (l:List fO) (p:fO→Bool) (v fv:aj) (hv:au G (.sl 2 (l.map fO.dat)) v) (hf:∀ x∈l,tH fv G x.dat (p x)) :
  Calls prog 157 #[v,fv] w0 (bB w0 G fun u G'=>u=.bool (l.findIdx? p).isSome):=by
 refine eN [(0,_),(1,_)] func157 rfl ntmps157 rfl rfl hG ?_;intro a H;refine kP H (SR fun _ K1=>aF K1 rfl (SR fun _ K2=>Rm rfl (Rm rfl ?_)));clear H K1;intro a H;refine s_call aiX H wn rfl (aoG _ _ H.ro l p _ _ hv hf) rfl ?_;clear H;rintro v7 G7 a w rfl BH H;refine kH H (Rc rfl (aF K2 rfl ?_));clear H K2;intro a H;refine lr H results157 rfl ?_
 exact H.rt (by cases h:l.findIdx? p <;> simp [oC])
theorem acv (G:GH) (w0:World) (hG:Hold G w0) (l:List Int) (t:Int) (v:aj) (hv:au G (.sl 1 (l.map fun k=>[li k])) v) (hl:l.length≤4294967296) :
  Calls prog 76 #[v,vi t] w0 (bB w0 G fun u G'=>u=.bool (ni l t)):=by
 refine eN [(0,_),(1,_)] func76 rfl ntmps76 rfl rfl hG ?_;intro a H;refine kP H (SR fun _ K1=>aF K1 rfl (SR fun _ K2=>Rm rfl (Rm rfl ?_)));clear H K1;intro a H;refine s_call ZB H wn rfl (Yf _ _ H.ro l t _ hv hl) rfl ?_;clear H;rintro v10 zD a w ⟨rfl,rfl⟩ yS H;refine kH H (Rm rfl ?_);clear H;intro a H;(iterate 2 refine lQ H wn rfl rfl rfl ?_;clear H;intro a H);exact kH H (Ra rfl (aF K2 rfl (SR fun _ K3=>Rm rfl (aF K3 rfl (LR results76 rfl fun H=>H.rt rfl)))))
abbrev Hf (s:Int × Bool):aj:=.agg #[vi s.1,.bool s.2]
theorem afN (G:GH) (w0:World) (hG:Hold G w0) (y:cB):Calls prog 161 #[.agg y.cells.toArray] w0 (bB w0 G fun u G'=>u=Hf (y.before,y.had)):=by
 refine eN [(0,_)] func161 rfl ntmps161 rfl rfl hG ?_;intro a H;refine fK (fun _ K1=>?_);refine dW (cs:=[_,_,_,_]) H wn rfl rfl rfl ?_;clear H;intro b1 a w hb1 H;refine dJ sG H wn rfl ?_;clear H;intro b2 a w hb2 H;refine K1 _ _ ?_;clear K1;refine kP H (SR fun _ K2=>dU Ee aT 1 rfl rfl (dU Oj Cg 1 rfl rfl ?_));clear H;intro a H;refine jl aea [_,_] H wn rfl rfl rfl rfl ?_;clear H;intro a H;refine aY sG 0 (vs:=[_,_]) _ H wn rfl rfl rfl rfl rfl rfl rfl rfl ?_;clear H;intro w H;dsimp only [List.set,setRow] at H;refine K2 _ _ ?_;clear K2;refine cK ?_;refine (leave1 H results161 (.cons (nH sG (cs:=[_,_]) H rfl rfl (H.hp.bT 0 rfl rfl)) .nil) ?_).1;exact H.rt rfl
theorem aqA (G:GH) (w0:World) (hG:Hold G w0) (h:dP) (p d l:aj) (hh:iA G h p d l) (k:Int) (hl:h.props.length≤4294967296):Calls prog 162 #[rz h p d l,vi k] w0 (bB w0 G fun u G'=>u=Hf (zO h.props k)):=by
 obtain ⟨pA,pn,pc,rfl⟩:=hh.props.form;obtain ⟨dA,dn,dc,rfl⟩:=hh.bH.form;obtain ⟨lA,ln,lc,rfl⟩:=hh.layers.form;refine eN [(0,_),(1,_)] func162 rfl ntmps162 rfl rfl hG ?_;intro a H;refine fK (fun _ K1=>?_);refine dW (cs:=[_,_,_,_,_]) H wn rfl rfl rfl ?_;clear H;intro b2 a w hb2 H;refine dJ sG H wn rfl ?_;clear H;intro b4 a w hb4 H;refine K1 _ _ ?_;clear K1;refine kP H (SR fun _ K2=>dU FE Ar 1 rfl rfl (Rm rfl ?_));clear H;intro a H;refine s_call aiY H wn rfl (alv _ _ H.ro h.props k _ hh.props hl) rfl ?_;clear H;rintro v11 tC a w rfl CV H;refine kH H (Rm rfl ?_);clear H;intro a H;(iterate 2 refine lQ H wn rfl rfl rfl ?_;clear H;intro a H);refine kH H (Ra rfl (aF K2 rfl (SR fun _ K3=>Rm rfl (Rm rfl ?_))));clear H K2;intro a H;refine jl aea [_,_] H wn rfl rfl rfl rfl ?_;clear H;intro a H;refine aY sG 0 (vs:=[_,_]) _ H wn rfl rfl rfl rfl rfl rfl rfl rfl ?_;clear H;intro w H;dsimp only [List.set,setRow] at H;refine K3 _ _ ?_;clear K3;refine cK ?_;refine (leave1 H results162 (.cons (nH sG (cs:=[_,_]) H rfl rfl (H.hp.bT 0 rfl rfl)) .nil) ?_).1;exact H.rt rfl
theorem alr (G:GH) (w0:World) (hG:Hold G w0) (y:cB) (s:Int × Bool):Calls prog 163 #[.agg y.cells.toArray,Hf s] w0 (bB w0 G fun u G'=>u=.agg (cB.cells ⟨y.rev,y.key,s.1,s.2⟩).toArray):=by
 refine eN [(0,_),(1,_)] func163 rfl ntmps163 rfl rfl hG ?_;intro a H;refine fK (fun _ K1=>?_);refine dW (cs:=[_,_,_,_]) H wn rfl rfl rfl ?_;clear H;intro b2 a w hb2 H;refine dW (cs:=[_,_]) H wn rfl rfl rfl ?_;clear H;intro b3 a w hb3 H;refine dJ jy H wn rfl ?_;clear H;intro b4 a w hb4 H;refine K1 _ _ ?_;clear K1;refine eY (fun _ K2=>?_);refine aga (hmx) [[],[0],[],[2],[0,1],[0,1,4],(ra 0 6),(ra 0 7)] [6,7] (by kernel_rfl) (by kernel_rfl) 5 (by decide) (fun (bQ:Nat) (v:aj) (G:GH)=>match bQ with|0=>v=(aM b3 0)|1=>v=vi s.1|2=>v=(aM b3 1)|3=>v=.bool s.2|4=>v=(aM b2 2)|_=>True) 2 ((b2,.cells #[vi y.rev,vi y.key,vi s.1,.bool y.had] 161 (0,0))) H ?_ ?_ ?_ ?_ (by kernel_rfl)
 ·clear H;refine aD ?_ ?_ ?_ ?_ (aD ?_ ?_ (bS rfl) (bS rfl) cO)
  ·intro aP a w G1 _ _ aK hc hG HT hv;have H:=HT;clear aK;have Hb:=H.full;have H:=Hb;clear hc;refine kH H (Rf ZQ rfl ?_);clear H;intro a H;refine aC ⟨rfl,?_⟩;exact dw (by kernel_rfl) (fun _ _ _ _ _ h=>h) rfl rfl HT Hb hG hv (fun _ _ h=>h) (rfl) H
  ·intro aP a w G1 _ _ aK hc hG HT hv;have H:=HT;clear aK;have H:=H.aN (hv 0 5 (hc 0 (by decide)) rfl) rfl;have Hb:=H.full;have H:=Hb;clear hc;refine kH H (Ro aT 1 rfl ?_);clear H;intro a H;refine aC ⟨rfl,?_⟩;exact dw (by kernel_rfl) (fun _ _ _ _ _ h=>h) rfl rfl HT Hb hG hv (fun _ _ h=>h) (rfl) H
  ·intro aP a w G1 _ _ aK hc hG HT hv;have H:=HT;clear aK;have Hb:=H.full;have H:=Hb;clear hc;refine kH H (Rf Tk rfl ?_);clear H;intro a H;refine aC ⟨rfl,?_⟩;exact dw (by kernel_rfl) (fun _ _ _ _ _ h=>h) rfl rfl HT Hb hG hv (fun _ _ h=>h) (rfl) H
  ·intro aP a w G1 _ _ aK hc hG HT hv;have H:=HT;clear aK;have H:=H.aN (hv 2 7 (hc 2 (by decide)) rfl) rfl;have Hb:=H.full;have H:=Hb;clear hc;refine kH H (Ro Cg 1 rfl ?_);clear H;intro a H;refine aC ⟨rfl,?_⟩;exact dw (by kernel_rfl) (fun _ _ _ _ _ h=>h) rfl rfl HT Hb hG hv (fun _ _ h=>h) (rfl) H
  ·intro aP a w G1 _ _ aK hc hG HT hv;have H:=HT;clear aK;have Hb:=H.full;have H:=Hb;clear hc;refine kH H (Rf Ee rfl ?_);clear H;intro a H;refine aC ⟨rfl,?_⟩;exact dw (by kernel_rfl) (fun _ _ _ _ _ h=>h) rfl rfl HT Hb hG hv (fun _ _ h=>h) (rfl) H
  intro _ _ _ _ _ hB;exact absurd hB (by decide)
 ·clear H;intro o_ aP a w G1 jv _ hc hG HT hv;obtain rfl:_=o_:=Option.some.inj jv;clear jv;have H:=HT;have H:=H.aN (hv 4 9 (hc 4 (by decide)) rfl) rfl;have H:=H.aN (hv 1 6 (hc 1 (by decide)) rfl) rfl;have Hb:=H.full;have H:=Hb;clear hc;refine aY aT 2 (vs:=[_]) _ H wn rfl rfl rfl rfl rfl rfl rfl rfl ?_;clear H;intro w H;dsimp only [List.set,setRow] at H;refine aC ⟨rfl,?_⟩;exact Sl rfl HT hG hv H
 ·clear H;refine aD (bS rfl) (bS rfl) ?_ ?_ (aD (bS rfl) ?_ (bS rfl) (bS rfl) cO)
  ·intro aP a w G1 _ _ aK hc hG HT hv;have H:=HT;dsimp only [List.set,List.append,lca,bK] at H;clear aK;have Hb:=H.full;have H:=Hb;clear hc;refine kH H (Rf Tk rfl ?_);clear H;intro a H;refine aC ⟨rfl,?_⟩;exact dw (by kernel_rfl) (fun _ _ _ _ _ h=>h) rfl rfl HT Hb hG hv (fun _ _ h=>h) (rfl) H
  ·intro aP a w G1 _ _ aK hc hG HT hv;have H:=HT;dsimp only [List.set,List.append,lca,bK] at H;clear aK;have H:=H.aN (hv 2 7 (hc 2 (by decide)) rfl) rfl;have Hb:=H.full;have H:=Hb;clear hc;refine kH H (Ro Cg 1 rfl ?_);clear H;intro a H;refine aC ⟨rfl,?_⟩;exact dw (by kernel_rfl) (fun _ _ _ _ _ h=>h) rfl rfl HT Hb hG hv (fun _ _ h=>h) (rfl) H
  intro _ _ _ _ _ hB;exact absurd hB (by decide)
 clear H;intro a w G iY H hv;dsimp only [List.set,List.append,lca,bK] at H;have H:=H.aN (hv 3 8 rfl rfl) rfl;clear hv;refine kH H (Rf Oj rfl ?_);clear H;intro a H;refine aY Cg 2 (vs:=[_]) _ H wn rfl rfl rfl rfl rfl rfl rfl rfl ?_;clear H;intro w H;dsimp only [List.set,setRow] at H;refine aC ⟨rfl,?_⟩;refine K2 _ _ ?_;clear K2;refine fK (fun _ K3=>?_);refine aR jy (cs:=[_,_,_,_]) H wn rfl rfl (H.hp.bT 2 rfl rfl) rfl ?_;clear H;intro a H;refine aY jy 0 (vs:=[_,_,_,_]) _ H wn rfl rfl rfl rfl rfl rfl rfl rfl ?_;clear H;intro w H;dsimp only [List.set,setRow] at H;refine K3 _ _ ?_;clear K3;refine cK ?_;refine (leave1 H results163 (.cons (nH jy (cs:=[_,_,_,_]) H rfl rfl (H.hp.bT 0 rfl rfl)) .nil) ?_).1;exact H.rt rfl
theorem aug (G:GH) (w0:World) (hG:Hold G w0) (ps:List aS) (io mo:Int) (p:aj) (dA lA:Option Addr) (dn dc ln lc:Nat) (hp:au G (.sl 2 (ps.map aS.dat)) p) (k:Int) (s:Int × Bool) (hl:ps.length≤4294967295) :
  Calls prog 164 #[.agg #[p,vi io,vi mo,.slice dA dn dc,.slice lA ln lc],vi k,Hf s] w0 (bB w0 G fun u G'=>∃ p',u=.agg #[p',vi io,vi mo,.slice dA dn dc,.slice lA ln lc]∧au G' (.sl 2 ((zu ps k s).map aS.dat)) p'):=by
 obtain ⟨pA,pn,pc,rfl⟩:=hp.form;refine eN [(0,_),(1,_),(2,_)] func164 rfl ntmps164 rfl rfl hG ?_;intro a H;refine fK (fun _ K1=>?_);refine dW (cs:=[_,_,_,_,_]) H wn rfl rfl rfl ?_;clear H;intro b3 a w hb3 H;refine dW (cs:=[_,_]) H wn rfl rfl rfl ?_;clear H;intro b5 a w hb5 H;refine dJ dB H wn rfl ?_;clear H;intro b6 a w hb6 H;refine K1 _ _ ?_;clear K1;refine kP H (SQ fun _ K2=>SR fun _ K3=>dU Tk Cg 1 rfl rfl (Kz K3 (Cd rfl ?_ ?_))) <;> clear H K3
 ·intro h8 a H
  try have p8:=dT h8
  refine kP H (SC (dU FE Ar 2 rfl rfl (Rm rfl (dU ZQ aT 1 rfl rfl ?_))));clear H;intro a H;refine s_call aiZ H wn rfl (asH _ _ H.ro ps k s.1 _ hp hl) rfl ?_;clear H;rintro v14 AJ a w rY xS H;obtain ⟨QV,n14,c14,rfl⟩:=rY.form;refine kH H (Rf FE rfl ?_);clear H;intro a H;refine aY Ar 2 (vs:=[_]) _ H wn rfl rfl rfl rfl rfl rfl rfl rfl ?_;clear H;intro w H;dsimp only [List.set,setRow] at H;refine aC ?_;refine K2 _ _ ?_;clear K2;refine fK (fun _ K4=>?_);refine aR dB (cs:=[_,_,_,_,_]) H wn rfl rfl (H.hp.bT 2 rfl rfl) rfl ?_;clear H;intro a H;refine aY dB 0 (vs:=[_,_,_,_,_]) _ H wn rfl rfl rfl rfl rfl rfl rfl rfl ?_;clear H;intro w H;dsimp only [List.set,setRow] at H;refine K4 _ _ ?_;clear K4;refine cK ?_;refine (leave1 H results164 (.cons (nH dB (cs:=[_,_,_,_,_]) H rfl rfl (H.hp.bT 0 rfl rfl)) .nil) ?_).1;exact H.rt ⟨_,rfl,by rw [zu,ak (by assumption)];exact rY⟩
 intro h8 a H
 try have p8:=dF h8
 refine kP H (SC (dU FE Ar 2 rfl rfl (Rm rfl ?_)));clear H;intro a H;refine s_call aja H wn rfl (agM _ _ H.ro ps k _ hp hl) rfl ?_;clear H;rintro v19 HV a w LP rW H;obtain ⟨Hy,n19,c19,rfl⟩:=LP.form;refine kH H (Rf FE rfl ?_);clear H;intro a H;refine aY Ar 2 (vs:=[_]) _ H wn rfl rfl rfl rfl rfl rfl rfl rfl ?_;clear H;intro w H;dsimp only [List.set,setRow] at H;refine aC ?_;refine K2 _ _ ?_;clear K2;refine fK (fun _ K5=>?_);refine aR dB (cs:=[_,_,_,_,_]) H wn rfl rfl (H.hp.bT 2 rfl rfl) rfl ?_;clear H;intro a H;refine aY dB 0 (vs:=[_,_,_,_,_]) _ H wn rfl rfl rfl rfl rfl rfl rfl rfl ?_;clear H;intro w H;dsimp only [List.set,setRow] at H;refine K5 _ _ ?_;clear K5;refine cK ?_;refine (leave1 H results164 (.cons (nH dB (cs:=[_,_,_,_,_]) H rfl rfl (H.hp.bT 0 rfl rfl)) .nil) ?_).1;exact H.rt ⟨_,rfl,by rw [zu,ah (by simp_all)];exact LP⟩
theorem Zo:∀ args w,(callFunc 212 args).run prog w=.ok (.enter 212 args) w:=enters func212 rfl (by kernel_rfl)
def gP (q:Int × List cB):AP:=fun args g=>∃ v,args=[vi q.1,v]∧au g (.sl 4 (q.2.map cB.dat)) v
theorem aag {A:List (Int × List cB)} {k:Nat} {args:List aj} {g:GH} (h:yE (A.map gP) k args g):∃ (hk:k < A.length) (B:Option Addr) (c:Nat),args=[vi A[k].1,.slice B A[k].2.length c]∧au g (.sl 4 (A[k].2.map cB.dat)) (.slice B A[k].2.length c):=by
 obtain ⟨p,hp,hargs⟩:=h;rw [sM] at hp;obtain ⟨q,hq,rfl⟩:=qF.1 hp;obtain ⟨hk,rfl⟩:=jO.1 hq;obtain ⟨v,h1,h2⟩:=hargs;obtain ⟨B,n,c,rfl⟩:=h2.form;have hn:=h2.len;rw [bO] at hn;subst hn;exact ⟨hk,B,c,h1,h2⟩
theorem au.hd {G:GH} {sz:Nat} {rows:List (List Dat)} {A:Option Addr} {n c:Nat} (h:au G (.sl sz rows) (.slice A n c)) (m:Nat) (hm:m≤rows.length):au G (.sl sz (rows.take m)) (.slice A m c):=by
 have h2:=h.part 0 m (iH _) hm;obtain ⟨A',c',he,hc1,-,-⟩:=h.slice;rw [List.drop_zero,Nat.sub_zero,Nat.sub_zero] at h2
 by_cases hc:c=0
 ·rw [ak hc] at h2;exact h2
 rw [ah hc] at h2
 cases A with
 | none=>exact h2
 | some p=>simpa [Addr.add] using h2
theorem QF {α:Type} {p:α→Bool}:∀ (r:List α) (i:Nat) (hi:i < r.length),i≤(r.takeWhile p).length→(p r[i]=true↔i < (r.takeWhile p).length)
 | [],_,hi,_=>absurd hi (by simp)
 | x :: r,i,hi,h=>by
  rw [List.takeWhile_cons] at h ⊢
  cases hx:p x
  ·rw [hx] at h
   simp only [tJ,if_false,List.length_nil,Nat.le_zero] at h
   subst h
   simp [hx]
  rw [hx] at h
  simp only [if_true,kU] at h ⊢
  cases i with
  | zero=>simp [hx]
  | succ i=>simpa using QF r i (by simpa using hi) (by omega)
theorem aem {α:Type} {p:α→Bool} (r:List α):r.drop (r.takeWhile p).length=r.dropWhile p:=by
 conv=>lhs;rw [← List.takeWhile_append_dropWhile (p:=p) (l:=r)]
 rw [List.drop_append_of_le_length (by simp [List.takeWhile_append_dropWhile])]
 simp [List.takeWhile_append_dropWhile]
theorem aen {α:Type} {p:α→Bool} (r:List α):r.take (r.takeWhile p).length=r.takeWhile p:=by
 have:=List.take_left (l₁:=r.takeWhile p) (l₂:=r.dropWhile p)
 rwa [List.takeWhile_append_dropWhile] at this
theorem alz {G:GH} {bd:Nat} {l:List cB} {v:aj} (hb:aH G bd 4=some v) (hv:au G (.sl 4 (l.map cB.dat)) v) (hz:l.length≤4294967290) :
  Iter prog G (.func (.func 212) #[] #[(aM bd 0)]) ((qY l.length l).map gP):=by
 intro J Jx fv G1 L w0 hfv hGi Bw hJx hJ hO hcb;refine jo (caps:=[(aM bd 0)]) Zo ?_;obtain ⟨A,c,rfl,hc1,hc2,hg⟩:=hv.slice;rw [bO] at *;replace hb:=aG hGi hb;refine jr (N:=42) (T:=[(0,_),(1,_)]) func212 rfl ntmps212 rfl rfl hO ?_;intro a H;refine kP H (SR fun _ K1=>Rf Bp rfl (Rf KN rfl (Rg JM rfl hb (aF K1 rfl (SB ?_)))));clear H K1;intro a H;skip;refine eH (ι:=Nat × List cB × Option Addr × Nat × Nat × OL × GH) (Tc:=[(0,_)]) (Lc:=[]) (fun gh=>[(3,.slice gh.2.2.1 gh.2.1.length gh.2.2.2.1)]) (fun gh=>[]++gh.2.2.2.2.2.1) (fun gh=>gh.2.2.2.2.2.2) (fun gh=>gh.2.1.length≤gh.1∧gh.2.1.length≤4294967290∧(∀ b o,G1 b=some o→gh.2.2.2.2.2.2 b=some o)∧au gh.2.2.2.2.2.2 (.sl 4 (gh.2.1.map cB.dat)) (.slice gh.2.2.1 gh.2.1.length gh.2.2.2.1)∧Now ((qY l.length l).map gP) gP J (qY l.length l).length gh.2.2.2.2.1 (qY gh.1 gh.2.1) gh.2.2.2.2.2.2 gh.2.2.2.2.2.1) (fun gh=>gh.2.1.length) ((l.length,l,A,c,0,L,G1)) (by exact (H).sub ⟨rfl,rfl,aL⟩) ?_ ?_
 ·exact ⟨bR _,hz,fun _ _ h=>h,hv.mono hGi,⟨hJ,fun i a h=>by rw [gD,sM];rw [h];rfl,by simp⟩⟩
 clear H;rintro ⟨f,rest,B,d,j1,Lt,g⟩ a w hI H;dsimp only at hI H;obtain ⟨hf,hzr,hgm,pJ,jh⟩:=hI;dsimp only [lca,bK] at H;refine kP H (SQ fun _ K2=>SR fun _ K3=>Rm rfl (Rl nP rfl (Rc rfl (Kz K3 (Cd rfl ?_ ?_))))) <;> clear H K3
 ·intro h10 a H
  try have iU:=dT h10
  obtain ⟨y,r,rfl⟩:∃ y r,rest=y :: r:=by cases rest with|nil=>simp at iU|cons y r=>exact ⟨y,r,rfl⟩
  obtain ⟨f,rfl⟩:∃ f',f=f'+1:=⟨f - 1,by rw [kU] at hf;omega⟩;rw [qY] at jh;obtain ⟨b,o,rfl,hr0⟩:=EH pJ (k:=0) (by simp);obtain ⟨p,hp⟩:∃ p:cB→Bool,p=fun z=>decide (z.key=y.key):=⟨_,rfl⟩;rw [← hp] at jh;refine kP H (Kc K2 (SB (SR fun _ K4=>aF K4 rfl (SQ fun _ K5=>SB ?_))));clear H K2 K4;intro a H;skip;refine eH (ι:=Nat × GH) (Tc:=[(0,_),(3,_)]) (Lc:=[]) (fun gh=>[(4,vi gh.1)]) (fun gh=>[]++Lt) (fun gh=>gh.2) (fun gh=>1≤gh.1∧gh.1≤1+(r.takeWhile p).length∧(∀ b o,g b=some o→gh.2 b=some o)) (fun gh=>(y :: r).length - gh.1) ((1,g)) (by exact (H).sub ⟨rfl,rfl,rfl,aL⟩) ?_ ?_
  ·exact ⟨bR _,by omega,fun _ _ h=>h⟩
  clear H;rintro ⟨m,g3⟩ a w hI H;dsimp only at hI H;obtain ⟨hm1,hm2,hg3⟩:=hI;dsimp only [lca,bK] at H;refine eY (fun _ K6=>?_);refine eY (fun _ K7=>?_)
  obtain ⟨km,hkm⟩:∃ km:Int,∀ (h:m < (y :: r).length),(y :: r)[m].key=km:=by
   by_cases h:m < (y :: r).length
   ·exact ⟨((y :: r)[m]'h).key,fun _=>rfl⟩
   exact ⟨0,fun h2=>absurd h2 h⟩
  have hkc:m < (y :: r).length→aH g b (o+m*4+1)=some (vi km):=fun h=>by
   obtain ⟨b',o',he,hrm⟩:=EH pJ (k:=m) h
   injection he with he
   injection he with e1 e2
   subst e1 e2;rw [← hkm h];exact hrm 1 _ rfl
  have hlen:(y :: r).length=r.length+1:=rfl
  have hdc:(y :: r).length≤d:=by
   obtain ⟨_,_,he,h1,-,-⟩:=pJ.slice
   injection he with _ _ e3
   rw [bO] at h1
   omega
  have htl:(r.takeWhile p).length≤r.length:=(List.takeWhile_sublist (l:=r) p).length_le
  by_cases c0:(m:Int) < ((y :: r).length:Int)
  ·skip;refine dI hmx [[],[],[1],[0,1,2],(ra 0 4),(ra 0 5),(ra 0 5),(ra 0 7),(ra 0 8),(ra 0 9),(ra 0 5),[0,1,2,3,4,10],[0,1,2,3,4,10,11],[0,1,2,3,4,10,11,12],(ra 0 14),(ra 0 15)] [] (by kernel_rfl) [_,_,_,_,_,_,_,(aM b (o+m*4)),_,_,_,(aM b (o+0*4)),_,_,_,_] H (aD (Z0 rfl (Rm rfl)) (Z0 rfl (Rm rfl)) (Z1 1 12 rfl (Rl nP rfl)) (Z2 0 11 2 13 rfl (Rc rfl)) (aD (Z1 3 14 rfl (Rm rfl)) (Z1 4 15 rfl (YM (aI c0) rfl)) (Z1 4 15 rfl (YM (aI c0) rfl)) ?_ (aD (Z2 7 18 4 15 rfl (YF xM (aI c0) rfl)) (X2 8 19 4 15 rfl fun hG=>YR aT (aI c0) rfl (aG hG (aG hg3 (hkc (by omega))))) (Z1 4 15 rfl (YM (aI c0) rfl)) ?_ (aD (Z2 11 22 4 15 rfl (YF xM (aI c0) rfl)) (X2 12 23 4 15 rfl fun hG=>YR aT (aI c0) rfl (aG hG (aG hg3 (hr0 1 _ rfl)))) (Z3 9 20 13 24 4 15 rfl (YC (aI c0) rfl)) (Z2 4 15 14 25 rfl (Pt (aI c0) rfl)) cO)))) ?_
   ·refine yL 5 16 6 17 4 15 rfl rfl fun _ a w G1 hG HT H fin=>?_;refine yx nP jy m H (wg H rfl rfl (aI c0)) rfl rfl rfl (by omega) rfl ?_;clear H;intro a H;exact fin H iJ rfl
   ·refine dL 10 21 4 15 rfl rfl fun _ a w G1 hG HT H fin=>?_;refine yx nP jy 0 H (wg H rfl rfl (aI c0)) rfl rfl rfl (by simp) rfl ?_;clear H;intro a H;exact fin H iJ rfl
   clear H;intro a w G rV H hv;have H:=H.aN (hv 15 26 rfl rfl) rfl;clear hv;refine aC ⟨rfl,?_⟩;refine K7 _ _ ?_;clear K7;refine mW H rfl ?_ ?_
   ·intro TK
    try have p26:=dT TK
    have hmr:m - 1 < (r.takeWhile p).length:=by
     refine (QF (p:=p) r (m - 1) (by omega) (by omega)).1 ?_;have h1:=hkm (by omega)
     have h2:(y :: r)[m]=r[m - 1]:=by
      obtain ⟨q,rfl⟩:∃ q,m=q+1:=⟨m - 1,by omega⟩
      rfl
     rw [hp];rw [h2] at h1;exact iO (by rw [h1];exact p26)
    refine kP H (Kc K6 (SB (SC (Rm rfl (Rd rfl (Ra rfl ?_))))));clear H K6;intro a H;refine aC ?_;refine dx ((m+1,_)) (by exact (H).sub ⟨rfl,rfl,rfl,aL⟩) ?_
    (try dsimp only);exact ⟨by omega,by omega,fun b o h=>rV b o (hg3 b o h)⟩
   intro TK
   try have p26:=dF TK
   refine jI ?_;refine K5 _ _ ?_;clear K5;refine eY (fun _ K8=>?_);refine eY (fun _ K9=>?_)
   have hmr:m=1+(r.takeWhile p).length:=by
    by_cases hlt:m < 1+(r.takeWhile p).length
    ·exfalso
     have h1:=(QF (p:=p) r (m - 1) (by omega) (by omega)).2 (by omega);have h3:=hkm (by omega)
     have h2:(y :: r)[m]=r[m - 1]:=by
      obtain ⟨q,rfl⟩:∃ q,m=q+1:=⟨m - 1,by omega⟩
      rfl
     have h4:=nS ((congrFun hp _).symm.trans h1);rw [h2] at h3;rw [h3] at h4
     first|exact p26 h4|exact c0 (by omega)
    omega
   have htk:(y :: r).take m=y :: r.takeWhile p:=by rw [hmr,Nat.add_comm,List.take_succ_cons,aen]
   have hdr:(y :: r).drop m=r.dropWhile p:=by rw [hmr,Nat.add_comm,List.drop_succ_cons,aem]
   rw [← htk,← hdr] at jh;refine dI hmx [[],[],[1],[1,2],[1,2,3],[],[],[5,6],(ra 0 8),(ra 0 9)] [8,9] (by kernel_rfl) [_,_,(aM b (o+0*4)),_,_,_,_,.slice (some ⟨b,o,none⟩) m d] H (aD (Z0 rfl (Rm rfl)) (Z0 rfl (Rm rfl)) ?_ (Z1 2 31 rfl (Rf xM rfl)) (aD (X1 3 32 rfl fun hG=>Rg aT rfl (aG hG (aG rV (aG hg3 (hr0 1 _ rfl))))) (Z0 rfl (Rm rfl)) (Z0 rfl (Rm rfl)) ?_ (bM (bS rfl) (bM (bS rfl) cO)))) ?_
   ·refine eu 1 30 rfl rfl fun _ a w G1 hG HT H fin=>?_;refine yx nP jy 0 H wn rfl rfl rfl (by simp) rfl ?_;clear H;intro a H;exact fin H iJ rfl
   ·refine dL 5 34 6 35 rfl rfl fun _ a w G1 hG HT H fin=>?_;refine ET nP jy m H wn rfl rfl rfl (by omega) rfl ?_;clear H;intro a H;exact fin H iJ rfl
   clear H;intro a w G lZ H hv;have H:=H.aN (hv 0 29 rfl rfl) rfl;have H:=H.aN (hv 4 33 rfl rfl) rfl;have H:=H.aN (hv 7 36 rfl rfl) rfl;clear hv;refine Dq (Li:=[]) (L:=Lt) H wn rfl rfl (hcb j1 _ _ _ _ ⟨_,jh.head,_,rfl,by rw [List.map_take];exact ((pJ.hd m (by simp;omega)).mono fun b o h=>lZ b o (rV b o (hg3 b o h)))⟩ (fun b o h=>lZ b o (rV b o (hg3 b o (hgm b o h)))) (Bw _ _ _ _ (fun b o h=>lZ b o (rV b o (hg3 b o h))) jh.now) (Hp.owns (Li:=[]) H.hp)) rfl ?_;clear H;rintro v37 J5 H8 a w ⟨b37,rfl,hb1,hb2⟩ CX H;refine kH H (Rn rfl ?_);clear H;intro a H;refine aC ⟨rfl,?_⟩;refine K9 _ _ ?_;clear K9;refine mW H rfl ?_ ?_
   ·intro kC
    try have p38:=dT kC
    refine cK ?_;refine (leave0 H results212 ?_).1
    first
     | exact H.hp.kZ (L':=H8) (by repeat (first|exact kF _|apply List.Sublist.cons)) (.inr (hb2 (by simpa using kC)))
     | exact H.hp.dM (.inl (by
       have:=jh.len;rw [show rest=[] from List.eq_nil_of_length_eq_zero (by omega)] at this
       cases f <;> (simp only [qY,List.length_nil,xH] at this;first|(rw [bO,← this];exact jh.now)|(rw [← this];exact jh.now))))
   intro kC
   try have p38:=dF kC
   refine kP H (Kc K8 (SC (Rm rfl (Rm rfl ?_))));clear H K8;intro a H;refine zl nP jy m H wn rfl rfl rfl (by omega) rfl ?_;clear H;intro a H;refine kH H (Ra rfl ?_);clear H;intro a H;refine aC ?_;refine VI ((f,(y :: r).drop m,_,d - m,j1+1,H8,J5)) (by exact (show St _ _ _ _ _ _ _ ((3,.slice _ ((y :: r).drop m).length (d - m)) :: _) _ _ from by rw [List.length_drop];exact H).sub ⟨rfl,rfl,aL⟩) ?_ ?_
   ·(try dsimp only);refine ⟨by rw [List.length_drop];omega,by rw [List.length_drop];omega,fun b o h=>CX b o (lZ b o (rV b o (hg3 b o (hgm b o h)))),?_,jh.step (hb1 (by simpa using kC))⟩;have h1:=pJ.part m (y :: r).length (by omega) (by simp);rw [← List.map_drop,gu (by simp)] at h1;rw [List.length_drop];exact h1.mono fun b o h=>CX b o (lZ b o (rV b o (hg3 b o h)))
   show ((y :: r).drop m).length < (y :: r).length;rw [List.length_drop];omega
  skip;refine dI hmx [[],[],[1],[0,1,2],(ra 0 4),(ra 0 5),(ra 0 5),(ra 0 7),(ra 0 8),(ra 0 9),(ra 0 5),[0,1,2,3,4,10],[0,1,2,3,4,10,11],[0,1,2,3,4,10,11,12],(ra 0 14),(ra 0 15)] [] (by kernel_rfl) [_,_,_,_,_,undef,undef,undef,undef,undef,undef,undef,undef,undef,undef,_] H (aD (Z0 rfl (Rm rfl)) (Z0 rfl (Rm rfl)) (Z1 1 12 rfl (Rl nP rfl)) (Z2 0 11 2 13 rfl (Rc rfl)) (aD (Z1 3 14 rfl (Rm rfl)) (aW 4 (aX c0) rfl rfl) (aW 4 (aX c0) rfl rfl) (aW 4 (aX c0) rfl rfl) (aD (aW 4 (aX c0) rfl rfl) (aW 4 (aX c0) rfl rfl) (aW 4 (aX c0) rfl rfl) (aW 4 (aX c0) rfl rfl) (aD (aW 4 (aX c0) rfl rfl) (aW 4 (aX c0) rfl rfl) (aW 4 (aX c0) rfl rfl) (Z2 4 15 14 25 rfl (Pf (aX c0) rfl)) cO)))) ?_
  clear H;intro a w G rV H hv;have H:=H.aN (hv 15 26 rfl rfl) rfl;clear hv;refine aC ⟨rfl,?_⟩;refine K7 _ _ ?_;clear K7;refine zJ H rfl rfl ?_;refine jI ?_;refine K5 _ _ ?_;clear K5;refine eY (fun _ eU=>?_);refine eY (fun _ fQ=>?_)
  have hmr:m=1+(r.takeWhile p).length:=by
   by_cases hlt:m < 1+(r.takeWhile p).length
   ·exfalso
    have h1:=(QF (p:=p) r (m - 1) (by omega) (by omega)).2 (by omega);have h3:=hkm (by omega)
    have h2:(y :: r)[m]=r[m - 1]:=by
     obtain ⟨q,rfl⟩:∃ q,m=q+1:=⟨m - 1,by omega⟩
     rfl
    have h4:=nS ((congrFun hp _).symm.trans h1);rw [h2] at h3;rw [h3] at h4
    first|exact p26 h4|exact c0 (by omega)
   omega
  have htk:(y :: r).take m=y :: r.takeWhile p:=by rw [hmr,Nat.add_comm,List.take_succ_cons,aen]
  have hdr:(y :: r).drop m=r.dropWhile p:=by rw [hmr,Nat.add_comm,List.drop_succ_cons,aem]
  rw [← htk,← hdr] at jh;refine dI hmx [[],[],[1],[1,2],[1,2,3],[],[],[5,6],(ra 0 8),(ra 0 9)] [8,9] (by kernel_rfl) [_,_,(aM b (o+0*4)),_,_,_,_,.slice (some ⟨b,o,none⟩) m d] H (aD (Z0 rfl (Rm rfl)) (Z0 rfl (Rm rfl)) ?_ (Z1 2 31 rfl (Rf xM rfl)) (aD (X1 3 32 rfl fun hG=>Rg aT rfl (aG hG (aG rV (aG hg3 (hr0 1 _ rfl))))) (Z0 rfl (Rm rfl)) (Z0 rfl (Rm rfl)) ?_ (bM (bS rfl) (bM (bS rfl) cO)))) ?_
  ·refine eu 1 30 rfl rfl fun _ a w G1 hG HT H fin=>?_;refine yx nP jy 0 H wn rfl rfl rfl (by simp) rfl ?_;clear H;intro a H;exact fin H iJ rfl
  ·refine dL 5 34 6 35 rfl rfl fun _ a w G1 hG HT H fin=>?_;refine ET nP jy m H wn rfl rfl rfl (by omega) rfl ?_;clear H;intro a H;exact fin H iJ rfl
  clear H;intro a w G lZ H hv;have H:=H.aN (hv 0 29 rfl rfl) rfl;have H:=H.aN (hv 4 33 rfl rfl) rfl;have H:=H.aN (hv 7 36 rfl rfl) rfl;clear hv;refine Dq (Li:=[]) (L:=Lt) H wn rfl rfl (hcb j1 _ _ _ _ ⟨_,jh.head,_,rfl,by rw [List.map_take];exact ((pJ.hd m (by simp;omega)).mono fun b o h=>lZ b o (rV b o (hg3 b o h)))⟩ (fun b o h=>lZ b o (rV b o (hg3 b o (hgm b o h)))) (Bw _ _ _ _ (fun b o h=>lZ b o (rV b o (hg3 b o h))) jh.now) (Hp.owns (Li:=[]) H.hp)) rfl ?_;clear H;rintro v37 J5 H8 a w ⟨b37,rfl,hb1,hb2⟩ CX H;refine kH H (Rn rfl ?_);clear H;intro a H;refine aC ⟨rfl,?_⟩;refine fQ _ _ ?_;clear fQ;refine mW H rfl ?_ ?_
  ·intro kC
   try have p38:=dT kC
   refine cK ?_;refine (leave0 H results212 ?_).1
   first
    | exact H.hp.kZ (L':=H8) (by repeat (first|exact kF _|apply List.Sublist.cons)) (.inr (hb2 (by simpa using kC)))
    | exact H.hp.dM (.inl (by
      have:=jh.len;rw [show rest=[] from List.eq_nil_of_length_eq_zero (by omega)] at this
      cases f <;> (simp only [qY,List.length_nil,xH] at this;first|(rw [bO,← this];exact jh.now)|(rw [← this];exact jh.now))))
  intro kC
  try have p38:=dF kC
  refine kP H (Kc eU (SC (Rm rfl (Rm rfl ?_))));clear H eU;intro a H;refine zl nP jy m H wn rfl rfl rfl (by omega) rfl ?_;clear H;intro a H;refine kH H (Ra rfl ?_);clear H;intro a H;refine aC ?_;refine VI ((f,(y :: r).drop m,_,d - m,j1+1,H8,J5)) (by exact (show St _ _ _ _ _ _ _ ((3,.slice _ ((y :: r).drop m).length (d - m)) :: _) _ _ from by rw [List.length_drop];exact H).sub ⟨rfl,rfl,aL⟩) ?_ ?_
  ·(try dsimp only);refine ⟨by rw [List.length_drop];omega,by rw [List.length_drop];omega,fun b o h=>CX b o (lZ b o (rV b o (hg3 b o (hgm b o h)))),?_,jh.step (hb1 (by simpa using kC))⟩;have h1:=pJ.part m (y :: r).length (by omega) (by simp);rw [← List.map_drop,gu (by simp)] at h1;rw [List.length_drop];exact h1.mono fun b o h=>CX b o (lZ b o (rV b o (hg3 b o h)))
  show ((y :: r).drop m).length < (y :: r).length;rw [List.length_drop];omega
 intro h10 a H
 try have iU:=dF h10
 refine jI ?_;refine (leave0 H results212 ?_).2
 first
  | exact H.hp.kZ (L':=H8) (by repeat (first|exact kF _|apply List.Sublist.cons)) (.inr (hb2 (by simpa using kC)))
  | exact H.hp.dM (.inl (by
    have:=jh.len;rw [show rest=[] from List.eq_nil_of_length_eq_zero (by omega)] at this
    cases f <;> (simp only [qY,List.length_nil,xH] at this;first|(rw [bO,← this];exact jh.now)|(rw [← this];exact jh.now))))
theorem apx (G:GH) (w0:World) (hG:Hold G w0) (h:dP) (p d l:aj) (hh:iA G h p d l) (hz:h.marks.layers.length≤4294967290) :
  Calls prog 160 #[rz h p d l] w0 (bB w0 G fun u G'=>∃ bd,u=.func (.func 212) #[] #[(aM bd 0)]∧Iter prog G' u ((qY h.marks.layers.length h.marks.layers).map gP)):=by
 obtain ⟨pA,pn,pc,rfl⟩:=hh.props.form;obtain ⟨dA,dn,dc,rfl⟩:=hh.bH.form;obtain ⟨lA,ln,lc,rfl⟩:=hh.layers.form;refine eN [(0,_)] func160 rfl ntmps160 rfl rfl hG ?_;intro a H;refine fK (fun _ K1=>?_);refine dW (cs:=[_,_,_,_,_]) H wn rfl rfl rfl ?_;clear H;intro b1 a w hb1 H;refine kH H (aF K1 rfl (SR fun _ K2=>?_));clear H K1;intro a H;refine qy H wn rfl rfl ?_;clear H;intro a H;refine kH H (aF K2 rfl ?_);clear H K2;intro a H;refine cK ?_;obtain ⟨G2,hm2,hb1,H⟩:=H.eB;refine lv H results160 rfl ?_;exact H.rt ⟨b1,rfl,alz (v:=.slice lA ln lc) (by unfold aH;rw [hb1];rfl) (hh.layers.mono hm2) hz⟩
theorem nN {G:GH} {b:Nat} {cs:List aj} {e:TypeId} {q:Nat × Nat} (h:G b=some (.cells cs.toArray e q)) (k:Nat) (ds:List aj) (hd:ds=(cs.drop k).take ds.length) (j:Nat) (v:aj) (hj:ds[j]?=some v):aH G b (k+j)=some v:=by
 unfold aH
 rw [h]
 show cs.toArray[k+j]?=some v
 rw [hd,tK] at hj
 split at hj
 ·simpa using hj
 cases hj
instance:Ty prog 232 1 8 [.nilFunc] false:=⟨by kernel_rfl,by kernel_rfl⟩
theorem Zg:∀ args w,(callFunc 157 args).run prog w=.ok (.enter 157 args) w:=enters func157 rfl (by kernel_rfl)
theorem Ht:prog.underlying 240=some (.slice 242):=by kernel_rfl
instance:lD prog 240 (.slice 242):=⟨Ht⟩
theorem JJ:qE prog 29 [(0,1),(1,4)] [.slice none 0 0,.int .i64 0,.int .i64 0,.slice none 0 0,.slice none 0 0]:=⟨by kernel_rfl,by kernel_rfl⟩
theorem WJ:qE prog 27 [(0,1),(1,1),(2,1),(3,1)] [.int .i64 0,.int .i64 0,.slice none 0 0,.slice none 0 0]:=⟨by kernel_rfl,by kernel_rfl⟩
theorem ais:∀ args w,(callFunc 160 args).run prog w=.ok (.enter 160 args) w:=enters func160 rfl (by kernel_rfl)
theorem ait:∀ args w,(callFunc 161 args).run prog w=.ok (.enter 161 args) w:=enters func161 rfl (by kernel_rfl)
theorem aiu:∀ args w,(callFunc 162 args).run prog w=.ok (.enter 162 args) w:=enters func162 rfl (by kernel_rfl)
theorem aiv:∀ args w,(callFunc 163 args).run prog w=.ok (.enter 163 args) w:=enters func163 rfl (by kernel_rfl)
theorem aiw:∀ args w,(callFunc 164 args).run prog w=.ok (.enter 164 args) w:=enters func164 rfl (by kernel_rfl)
theorem aip:∀ args w,(callFunc 155 args).run prog w=.ok (.enter 155 args) w:=enters func155 rfl (by kernel_rfl)
theorem aiq:∀ args w,(callFunc 156 args).run prog w=.ok (.enter 156 args) w:=enters func156 rfl (by kernel_rfl)
theorem air:∀ args w,(callFunc 158 args).run prog w=.ok (.enter 158 args) w:=enters func158 rfl (by kernel_rfl)
def Cq (vv:aj) (G:GH) (acc rej:Int→Bool):Prop:=∀ (G1:GH) (w1:World),(∀ b o,G b=some o→G1 b=some o)→Hold G1 w1→∀ r:Int,rO prog vv [vi r] w1 (bB w1 G1 fun u G'=>u=.tuple #[.bool (acc r),.bool (rej r)])
def DN (fv:aj) (G:GH) (f:Int→Bool):Prop:=∀ (G1:GH) (w1:World),(∀ b o,G b=some o→G1 b=some o)→Hold G1 w1→∀ r:Int,rO prog fv [vi r] w1 (bB w1 G1 fun u G'=>u=.bool (f r))
theorem Cq.mono {vv:aj} {G G':GH} {acc rej:Int→Bool} (hm:∀ b o,G b=some o→G' b=some o) (h:Cq vv G acc rej):Cq vv G' acc rej:=fun G1 w1 h1=>h G1 w1 fun b o hb=>h1 b o (hm b o hb)
theorem DN.mono {vv:aj} {G G':GH} {f:Int→Bool} (hm:∀ b o,G b=some o→G' b=some o) (h:DN vv G f):DN vv G' f:=fun G1 w1 h1=>h G1 w1 fun b o hb=>h1 b o (hm b o hb)
abbrev Nz (b:Nat):aj:=.func (.func 155) #[] #[(aM b 0)]
abbrev Qe (b:Nat):aj:=.func (.func 156) #[] #[(aM b 0)]
theorem afC {G:GH} {b:Nat} {vv:aj} {acc rej:Int→Bool} (hb:aH G b 0=some vv) (hv:Cq vv G acc rej):DN (Nz b) G acc:=by
 intro G1 w0 hm hG r;refine jo (caps:=[(aM b 0)]) aip ?_;replace hb:=aG hm hb;refine eN [(0,_),(1,_)] func155 rfl ntmps155 rfl rfl hG ?_;refine av 6 ?_;intro a H;refine jF H wn rfl rfl (hv _ _ hm H.ro r) rfl ?_;clear H;rintro v9 G9 a w rfl Aa H;refine bJ 1 H ?_;clear H;intro a H;(iterate 2 refine lQ H wn rfl rfl rfl ?_;clear H;intro a H);refine kJ 7 H ?_;exact rfl
theorem aqT {G:GH} {b:Nat} {vv:aj} {acc rej:Int→Bool} (hb:aH G b 0=some vv) (hv:Cq vv G acc rej):DN (Qe b) G rej:=by
 intro G1 w0 hm hG r;refine jo (caps:=[(aM b 0)]) aiq ?_;replace hb:=aG hm hb;refine eN [(0,_),(1,_)] func156 rfl ntmps156 rfl rfl hG ?_;refine av 6 ?_;intro a H;refine jF H wn rfl rfl (hv _ _ hm H.ro r) rfl ?_;clear H;rintro v9 G9 a w rfl Aa H;refine bJ 1 H ?_;clear H;intro a H;(iterate 2 refine lQ H wn rfl rfl rfl ?_;clear H;intro a H);refine kJ 7 H ?_;exact rfl
theorem YX {G:GH} {b:Nat} {fv:aj} {acc:Int→Bool} (hb:aH G b 0=some fv) (hv:DN fv G acc) (x:fO):tH (.func (.func 158) #[] #[(aM b 0)]) G x.dat (acc x.rev):=by
 intro G1 w0 cs hm hG hr;obtain rfl:=KG hr;refine jo (caps:=[(aM b 0)]) air ?_;replace hb:=aG hm hb;refine eN [(0,_),(1,_)] func158 rfl ntmps158 rfl rfl hG ?_;refine av 1 ?_;intro a H;refine dW (cs:=[_,_]) H wn rfl rfl rfl ?_;clear H;intro b2 a w hb2 H;refine bJ 6 H ?_;clear H;intro a H;refine jF H wn rfl rfl (hv _ _ hm H.ro x.rev) rfl ?_;clear H;rintro v7 G7 a w rfl BH H;refine kJ 2 H ?_;exact rfl
theorem aqv (G:GH) (w0:World) (hG:Hold G w0) (l:List aS) (v:aj) (hv:au G (.sl 2 (l.map aS.dat)) v) (hz:l.length≤4294967296) :
  Calls prog 159 #[v] w0 (bB w0 G fun u G'=>au G' (.sl 2 (l.map aS.dat)) u):=by
 obtain ⟨A,n,c,rfl⟩:=hv.form;refine eN [(0,_)] func159 rfl ntmps159 rfl rfl hG ?_;refine av 5 ?_;intro a H;refine s_call Od H wn rfl (R4 _ _ H.ro _ _ _ _ hv (by simpa using hz)) rfl ?_;clear H;rintro v4 G4 a w U1 Je H;refine kJ 2 H ?_;exact U1
abbrev MK (s:Int × Bool):List Dat:=[li s.1,.lf (.bool s.2)]
theorem aeg (G:GH) (s:Int × Bool):aV G (MK s) [vi s.1,.bool s.2]:=by simp [aV,au,Value.oneCell']
theorem aej {G:GH} {l:List (Int × Bool)} {A:Option Addr} {n c k:Nat} (hv:au G (.sl 2 (l.map MK)) (.slice A n c)) (hk:k < l.length):∃ b o,A=some ⟨b,o,none⟩∧∀ j u,[vi l[k].1,.bool l[k].2][j]?=some u→aH G b (o+k*2+j)=some u:=by
 obtain ⟨b,o,cs,h1,h2,h3,h4⟩:=hv.at_ k (MK l[k]) (by simp [hk])
 simp only [aV,au] at h4
 obtain ⟨_,_,rfl,⟨rfl,-⟩,_,_,rfl,⟨rfl,-⟩,rfl⟩:=h4;exact ⟨b,o,h1,h3⟩
theorem apc (G:GH) (y:cB):aV G y.dat y.cells:=by simp [cB.dat,cB.cells,aV,au,Value.oneCell']
theorem YW (G:GH) (y:fO):aV G y.dat y.cells:=by simp [fO.dat,fO.cells,aV,au,Value.oneCell']
theorem att (props:List aS) (key:Int) (l:List cB):(qP props key l).length=l.length+1:=by simp [qP]
theorem IL {l:List fO} {p:fO→Bool}:(l.findIdx? p).isSome=true↔∃ x∈l,p x=true:=by rw [List.findIdx?_isSome,List.any_eq_true]
theorem aly {L:List (Int × List cB)} {l:List cB} (h:L.flatMap Prod.snd=l) (hn:∀ q∈L,q.2≠[]) (k:Nat) (hk:k≤L.length):k≤((L.take k).flatMap Prod.snd).length∧((L.take k).flatMap Prod.snd).length≤l.length:=by
 constructor
 ·induction k with
  | zero=>exact iH _
  | succ k ih =>
   have:=ih (by omega);rw [fV (by omega),List.flatMap_append,iM];have h2:=List.length_pos_iff.2 (hn L[k] (lH (by omega)))
   simp only [List.flatMap_cons,List.flatMap_nil,fZ]
   omega
 have e:l=(L.take k).flatMap Prod.snd++(L.drop k).flatMap Prod.snd:=by rw [← List.flatMap_append,List.take_append_drop,h]
 rw [e,iM];omega
def oI (acc rej:Int→Bool) (h:dP) (u:aj) (G:GH):Prop:=if lM acc rej h then XW false Ci u G else XW true (kM acc rej h) u G
theorem VP (G:GH) (w0:World) (hG:Hold G w0) (acc rej:Int→Bool) (vv:aj) (hvv:Cq vv G acc rej) (hcv:vv.cells=#[vv]) (h:dP) (p d l:aj) (hh:iA G h p d l) (hz:mh h≤1073741824) :
    Calls prog 96 #[rz h p d l,vv] w0 (bB w0 G (oI acc rej h)):=by
  have hml:maxLen=9223372036854775807:=rfl;have hzh:=E9 h;have hz1:=qQ (h.props.map aS.dat);have hz2:=qQ (h.marks.bH.map fO.dat);have hz3:=qQ (h.marks.layers.map cB.dat)
  simp only [bO] at hz1 hz2 hz3
  obtain ⟨pA,pn,pc,rfl⟩:=hh.props.form;obtain ⟨dA,dn,dc,rfl⟩:=hh.bH.form;obtain ⟨lA,ln,lc,rfl⟩:=hh.layers.form;have hdn:=hh.bH.len;rw [bO] at hdn;subst hdn;refine eN [(0,_),(1,_)] func96 rfl ntmps96 rfl rfl hG ?_;refine av 1 ?_;intro a H;refine dW (cs:=[_,_,_,_,_]) H wn rfl rfl rfl ?_;clear H;intro b2 a w hb2 H;refine dW (cs:=[vv]) H wn rfl hcv rfl ?_;clear H;intro b3 a w hb3 H;refine dJ dB H wn rfl ?_;clear H;intro b4 a w hb4 H;refine bJ 3 H ?_;clear H;intro a H;refine qy H wn rfl rfl ?_;clear H;intro a H;refine dJ Ho H wn rfl ?_;clear H;intro b6 a w hb6 H;refine aY Ho 0 (vs:=[_]) _ H wn rfl rfl rfl rfl rfl rfl rfl rfl ?_;clear H;intro w H;dsimp only [List.set,setRow] at H;refine bJ 2 H ?_;clear H;intro a H;refine qy H wn rfl rfl ?_;clear H;intro a H;refine dJ Ho H wn rfl ?_;clear H;intro b7 a w wT H;refine aY Ho 0 (vs:=[_]) _ H wn rfl rfl rfl rfl rfl rfl rfl rfl ?_;clear H;intro w H;dsimp only [List.set,setRow] at H;refine bJ 3 H ?_;clear H;intro a H;refine aR Dy (cs:=[_,_,_,_]) H wn rfl rfl (H.hp.bT 4 rfl rfl) rfl ?_;clear H;intro a H;refine dJ Dy H wn rfl ?_;clear H;intro b8 a w BA H;refine aY Dy 0 (vs:=[_,_,_,_]) _ H wn rfl rfl rfl rfl rfl rfl rfl rfl ?_;clear H;intro w H;dsimp only [List.set,setRow] at H;have H:=H.dX (Pl:=[_,_,_,_,_,_]) (dN:=[_,_,_,_,_,_]) [5,4,2,1,0,3] (by decide) rfl;obtain ⟨Ga,hma,hb2',H⟩:=H.eB;obtain ⟨Gb,hmb,uf,H⟩:=H.eB;obtain ⟨Gc,hmc,Uz,H⟩:=H.eB;obtain ⟨Gd,hmd,amB,H⟩:=H.eB;obtain ⟨Ge,hme,amC,H⟩:=H.eB;have zZ:∀ b o,G b=some o→Ge b=some o:=fun b o h=>hme b o (hmd b o (hmc b o (hmb b o (hma b o h))));have q2:∀ j v,[.slice pA pn pc,vi h.marks.ins,vi h.marks.move,.slice dA h.marks.bH.length dc,.slice lA ln lc][j]?=some v→aH Ge b2 (0+j)=some v:=fun j v hj=>aG (fun b o h=>hme b o (hmd b o (hmc b o (hmb b o h)))) (nN hb2' 0 _ rfl j v hj);have q8:∀ j v,[vi h.marks.ins,vi h.marks.move,.slice dA h.marks.bH.length dc,.slice lA ln lc][j]?=some v→aH Ge b8 (0+j)=some v:=fun j v hj=>nN amC 0 _ rfl j v hj;have hvb:aH Gb b3 0=some vv:=nN uf 0 [vv] rfl 0 _ rfl;have wR:DN (Nz b3) Ge acc:=(afC hvb (hvv.mono fun b o h=>hmb b o (hma b o h))).mono fun b o h=>hme b o (hmd b o (hmc b o h));have xQ:DN (Qe b3) Ge rej:=(aqT hvb (hvv.mono fun b o h=>hmb b o (hma b o h))).mono fun b o h=>hme b o (hmd b o (hmc b o h));have q6:aH Ge b6 0=some (Nz b3):=aG (fun b o h=>hme b o (hmd b o h)) (nN Uz 0 [Nz b3] rfl 0 _ rfl);have q7:aH Ge b7 0=some (Qe b3):=aG hme (nN amB 0 [Qe b3] rfl 0 _ rfl);replace hh:=hh.mono zZ;refine aC ?_;refine oH ?_;refine rR (ι:=GH) (Tc:=[(2,_),(4,_),(6,_),(7,_),(8,_)]) (Lc:=[(_,_)]) (fun gh=>[]) (fun gh=>[]) (fun gh=>gh) (fun gh=>¬ lM acc rej h∧(∀ b o,Ge b=some o→gh b=some o)) sB ?_ ?_
  · refine mE 2 H ?_;clear H;intro a H;refine kL aT H wn rfl (H.hp.aH (q8 0 _ rfl)) rfl ?_;clear H;refine mX 2 29 ?_ ?_
    · intro qg
      try have p29:=dT qg
      refine av 2 ?_;intro a H;refine kL aT H (wg H rfl rfl qg) rfl (H.hp.aH (q8 0 _ rfl)) rfl ?_;clear H;intro a H;refine jF H (wg H rfl rfl qg) rfl rfl (xQ _ _ (fun _ _ h=>h) H.ro h.marks.ins) rfl ?_;clear H;rintro v33 Xz a w rfl aaR H;refine qd 2 35 H ?_ ?_ <;> clear H
      · intro lY
        try have p35:=dT lY
        refine av 8 ?_;intro a H;refine jl JJ [_,_,_,_,_] H wn rfl rfl rfl rfl ?_;clear H;intro a H;refine aY dB 0 (vs:=[_,_,_,_,_]) _ H wn rfl rfl rfl rfl rfl rfl rfl rfl ?_;clear H;intro w H;dsimp only [List.set,setRow] at H;refine bJ 2 H ?_;clear H;intro a H;refine cK ?_;refine (fE H results96 (.cons (nH dB (cs:=[_,_,_,_,_]) H rfl rfl (H.hp.bT 0 rfl rfl)) (.cons (bq H rfl) .nil)) ?_).1
        first
          | exact H.rt (by rw [oI,ak (by first|exact .inl ⟨by assumption,by assumption⟩|exact .inr (IL.1 (by assumption)))];exact ⟨_,_,_,rfl,QU _⟩)
          | (obtain ⟨Q9,Ac,rZ,H⟩:=St.nO (Li:=[_,_]) H hrw (rows:=ly.map cB.dat) (by simp) dQ
             exact H.rt (by rw [oI,ah uV,OX];exact ⟨_,_,_,rfl,⟨hpv.mono Ac,(hdr.mono jW).mono Ac,rZ⟩⟩))
      intro lY
      try have p35:=dF lY
      refine av 1 ?_;intro a H;refine kL Ce H (wg H rfl rfl lY) rfl (H.hp.aH (aG (by first|assumption|exact fun _ _ h=>h) (q8 2 _ rfl))) rfl ?_;clear H;intro a H;refine qy H (wg H rfl rfl lY) rfl rfl ?_;clear H;intro a H;refine s_call Zg H (wg H rfl rfl lY) rfl (YB _ _ H.ro h.marks.bH (fun x=>acc x.rev) _ _ (hh.bH.mono (by first|assumption|exact fun _ _ h=>h)) (fun x _=>YX (aG (by first|assumption|exact fun _ _ h=>h) q6) (wR.mono (by first|assumption|exact fun _ _ h=>h)) x)) rfl ?_;clear H;rintro v39 XB a w rfl O4 H;refine qb 2 H ?_ ?_ <;> clear H
      · intro p40
        refine av 1 ?_;intro a H;refine jl JJ [_,_,_,_,_] H wn rfl rfl rfl rfl ?_;clear H;intro a H;refine aY dB 0 (vs:=[_,_,_,_,_]) _ H wn rfl rfl rfl rfl rfl rfl rfl rfl ?_;clear H;intro w H;dsimp only [List.set,setRow] at H;refine bJ 2 H ?_;clear H;intro a H;refine cK ?_;refine (fE H results96 (.cons (nH dB (cs:=[_,_,_,_,_]) H rfl rfl (H.hp.bT 0 rfl rfl)) (.cons (bq H rfl) .nil)) ?_).1
        first
          | exact H.rt (by rw [oI,ak (by first|exact .inl ⟨by assumption,by assumption⟩|exact .inr (IL.1 (by assumption)))];exact ⟨_,_,_,rfl,QU _⟩)
          | (obtain ⟨Q9,Ac,rZ,H⟩:=St.nO (Li:=[_,_]) H hrw (rows:=ly.map cB.dat) (by simp) dQ
             exact H.rt (by rw [oI,ah uV,OX];exact ⟨_,_,_,rfl,⟨hpv.mono Ac,(hdr.mono jW).mono Ac,rZ⟩⟩))
      intro p40
      intro a H;refine iw ?_;refine ⟨_,sB,?_⟩;exact ⟨fun hg=>hg.elim (fun g=>by simp_all) (fun g=>by have g4:=IL.2 g;simp_all),by first|assumption|exact fun b o h=>O4 b o (aaR b o h)⟩
    intro qg
    try have p29:=dF qg
    refine av 6 ?_;intro a H;refine JH FD H (wg H rfl rfl rfl) rfl rfl ?_;clear H;intro a H;refine kL Ce H (wg H rfl rfl rfl) rfl (H.hp.aH (aG (by first|assumption|exact fun _ _ h=>h) (q8 2 _ rfl))) rfl ?_;clear H;intro a H;refine qy H (wg H rfl rfl rfl) rfl rfl ?_;clear H;intro a H;refine s_call Zg H (wg H rfl rfl rfl) rfl (YB _ _ H.ro h.marks.bH (fun x=>acc x.rev) _ _ (hh.bH.mono (by first|assumption|exact fun _ _ h=>h)) (fun x _=>YX (aG (by first|assumption|exact fun _ _ h=>h) q6) (wR.mono (by first|assumption|exact fun _ _ h=>h)) x)) rfl ?_;clear H;rintro v39 XB a w rfl O4 H;refine qb 2 H ?_ ?_ <;> clear H
    · intro p40
      refine av 1 ?_;intro a H;refine jl JJ [_,_,_,_,_] H wn rfl rfl rfl rfl ?_;clear H;intro a H;refine aY dB 0 (vs:=[_,_,_,_,_]) _ H wn rfl rfl rfl rfl rfl rfl rfl rfl ?_;clear H;intro w H;dsimp only [List.set,setRow] at H;refine bJ 2 H ?_;clear H;intro a H;refine cK ?_;refine (fE H results96 (.cons (nH dB (cs:=[_,_,_,_,_]) H rfl rfl (H.hp.bT 0 rfl rfl)) (.cons (bq H rfl) .nil)) ?_).1
      first
        | exact H.rt (by rw [oI,ak (by first|exact .inl ⟨by assumption,by assumption⟩|exact .inr (IL.1 (by assumption)))];exact ⟨_,_,_,rfl,QU _⟩)
        | (obtain ⟨Q9,Ac,rZ,H⟩:=St.nO (Li:=[_,_]) H hrw (rows:=ly.map cB.dat) (by simp) dQ
           exact H.rt (by rw [oI,ah uV,OX];exact ⟨_,_,_,rfl,⟨hpv.mono Ac,(hdr.mono jW).mono Ac,rZ⟩⟩))
    intro p40
    intro a H;refine iw ?_;refine ⟨_,sB,?_⟩;exact ⟨fun hg=>hg.elim (fun g=>by simp_all) (fun g=>by have g4:=IL.2 g;simp_all),by first|assumption|exact fun b o h=>O4 b o (aaR b o h)⟩
  clear H;intro gj a w hI H;obtain ⟨uV,hgj⟩:=hI;replace q2:=fun j v hj=>aG hgj (q2 j v hj);replace q8:=fun j v hj=>aG hgj (q8 j v hj);replace q6:=aG hgj q6;replace q7:=aG hgj q7;replace wR:=wR.mono hgj;replace xQ:=xQ.mono hgj;replace hh:=hh.mono hgj;dsimp only [lca,bK] at H;refine KP ?_
  have Dc:∀ (aJ bQ:Nat) (v:aj) (G G':GH),(∀ k o,G k=some o→G' k=some o)→(fun (aJ bQ:Nat) (v:aj) (G:GH)=>match bQ with|0=>v=(aM b2 0)|1=>v=.slice pA pn pc|2=>au G (.sl 2 (h.props.map aS.dat)) v|3=>v=(aM b8 0)|4=>v=vi h.marks.ins|5=>v=(aM b8 1)|6=>v=vi h.marks.move|7=>v=.agg #[vi h.marks.ins,vi h.marks.move,.slice none 0 0,.slice none 0 0]|8=>∃ A n c,v=.agg #[.slice A n c,vi h.marks.ins,vi h.marks.move,.slice none 0 0,.slice none 0 0]∧au G (.sl 2 (h.props.map aS.dat)) (.slice A n c)|9=>v=(aM aJ 0)|_=>True) aJ bQ v G→(fun (aJ bQ:Nat) (v:aj) (G:GH)=>match bQ with|0=>v=(aM b2 0)|1=>v=.slice pA pn pc|2=>au G (.sl 2 (h.props.map aS.dat)) v|3=>v=(aM b8 0)|4=>v=vi h.marks.ins|5=>v=(aM b8 1)|6=>v=vi h.marks.move|7=>v=.agg #[vi h.marks.ins,vi h.marks.move,.slice none 0 0,.slice none 0 0]|8=>∃ A n c,v=.agg #[.slice A n c,vi h.marks.ins,vi h.marks.move,.slice none 0 0,.slice none 0 0]∧au G (.sl 2 (h.props.map aS.dat)) (.slice A n c)|9=>v=(aM aJ 0)|_=>True) aJ bQ v G':=by
    intro aJ bQ v G G' hm h
    match bQ,h with
    | 0,h=>exact h
    | 1,h=>exact h
    | 2,h=>exact au.mono hm h
    | 3,h=>exact h
    | 4,h=>exact h
    | 5,h=>exact h
    | 6,h=>exact h
    | 7,h=>exact h
    | 8,h=>exact let ⟨A,n,c,h1,h2⟩:=h;⟨A,n,c,h1,h2.mono hm⟩
    | 9,h=>exact h
    | 10,h=>exact trivial
    | _+11,h=>exact trivial
  refine afT (hmx) [[],[0],[0,1],[],[3],[],[5],(ra 3 4),(ra 0 8),[],(ra 0 10)] [10] (by kernel_rfl) (by kernel_rfl) 9 (by decide) (.cells #[.slice none 0 0,vi 0,vi 0,.slice none 0 0,.slice none 0 0] 29 (0,0)) (fun (aJ bQ:Nat) (v:aj) (G:GH)=>match bQ with|0=>v=(aM b2 0)|1=>v=.slice pA pn pc|2=>au G (.sl 2 (h.props.map aS.dat)) v|3=>v=(aM b8 0)|4=>v=vi h.marks.ins|5=>v=(aM b8 1)|6=>v=vi h.marks.move|7=>v=.agg #[vi h.marks.ins,vi h.marks.move,.slice none 0 0,.slice none 0 0]|8=>∃ A n c,v=.agg #[.slice A n c,vi h.marks.ins,vi h.marks.move,.slice none 0 0,.slice none 0 0]∧au G (.sl 2 (h.props.map aS.dat)) (.slice A n c)|9=>v=(aM aJ 0)|_=>True) (fun _ _ i v G hi h=>by
    (iterate 11 (rcases i with _|i;(first|exact h|exact absurd rfl hi)));exact trivial) H ?_ ?_ ?_ (by kernel_rfl)
  · clear H;refine aD ?_ ?_ ?_ ?_ (aD ?_ ?_ ?_ ?_ (bM ?_ (bM ?_ (bM ?_ cO))))
    · intro aJ dD aP a w G1 _ _ aK hc hG HT hv;have H:=HT;clear aK;have Hb:=H.full;have H:=Hb;clear hc;refine bJ 1 H ?_;clear H;intro a H;refine aC ⟨rfl,?_⟩;exact dw (by kernel_rfl) (Dc aJ) rfl rfl HT Hb hG hv (fun _ _ h=>h) (rfl) H
    · intro aJ dD aP a w G1 _ _ aK hc hG HT hv;have H:=HT;clear aK;have H:=H.aN (hv 0 42 (hc 0 (by decide)) rfl) rfl;have Hb:=H.full;have H:=Hb;clear hc;refine kL Ar H wn rfl (H.hp.aH (aG hG (q2 0 _ rfl))) rfl ?_;clear H;intro a H;refine aC ⟨rfl,?_⟩;exact dw (by kernel_rfl) (Dc aJ) rfl rfl HT Hb hG hv (fun _ _ h=>h) (rfl) H
    · intro aJ dD aP a w G1 _ _ aK hc hG HT hv;have H:=HT;clear aK;have H:=H.aN (hv 1 43 (hc 1 (by decide)) rfl) rfl;have Hb:=H.full;have H:=Hb;clear hc;refine s_call Sv H wn rfl (aqv _ _ H.ro h.props _ (hh.props.mono hG) (by omega)) rfl ?_;clear H;rintro v44 XC a w LV alK H;refine aC ⟨rfl,?_⟩;exact dw (by kernel_rfl) (Dc aJ) rfl rfl HT Hb hG hv alK (LV) H
    · intro aJ dD aP a w G1 _ _ aK hc hG HT hv;have H:=HT;clear aK;have Hb:=H.full;have H:=Hb;clear hc;refine bJ 1 H ?_;clear H;intro a H;refine aC ⟨rfl,?_⟩;exact dw (by kernel_rfl) (Dc aJ) rfl rfl HT Hb hG hv (fun _ _ h=>h) (rfl) H
    · intro aJ dD aP a w G1 _ _ aK hc hG HT hv;have H:=HT;clear aK;have H:=H.aN (hv 3 45 (hc 3 (by decide)) rfl) rfl;have Hb:=H.full;have H:=Hb;clear hc;refine kL aT H wn rfl (H.hp.aH (aG hG (q8 0 _ rfl))) rfl ?_;clear H;intro a H;refine aC ⟨rfl,?_⟩;exact dw (by kernel_rfl) (Dc aJ) rfl rfl HT Hb hG hv (fun _ _ h=>h) (rfl) H
    · intro aJ dD aP a w G1 _ _ aK hc hG HT hv;have H:=HT;clear aK;have Hb:=H.full;have H:=Hb;clear hc;refine bJ 1 H ?_;clear H;intro a H;refine aC ⟨rfl,?_⟩;exact dw (by kernel_rfl) (Dc aJ) rfl rfl HT Hb hG hv (fun _ _ h=>h) (rfl) H
    · intro aJ dD aP a w G1 _ _ aK hc hG HT hv;have H:=HT;clear aK;have H:=H.aN (hv 5 47 (hc 5 (by decide)) rfl) rfl;have Hb:=H.full;have H:=Hb;clear hc;refine kL aT H wn rfl (H.hp.aH (aG hG (q8 1 _ rfl))) rfl ?_;clear H;intro a H;refine aC ⟨rfl,?_⟩;exact dw (by kernel_rfl) (Dc aJ) rfl rfl HT Hb hG hv (fun _ _ h=>h) (rfl) H
    · intro aJ dD aP a w G1 _ _ aK hc hG HT hv;have H:=HT;clear aK;have H:=H.aN (hv 4 46 (hc 4 (by decide)) rfl) rfl;have H:=H.aN (hv 6 48 (hc 6 (by decide)) rfl) rfl;have Hb:=H.full;have H:=Hb;clear hc;refine jl WJ [_,_,_,_] H wn rfl rfl rfl rfl ?_;clear H;intro a H;refine aC ⟨rfl,?_⟩;exact dw (by kernel_rfl) (Dc aJ) rfl rfl HT Hb hG hv (fun _ _ h=>h) (rfl) H
    · intro aJ dD aP a w G1 _ _ aK hc hG HT hv;have H:=HT;clear aK;obtain ⟨u44,aot,LV⟩:=hv 2 44 (hc 2 (by decide)) rfl;(try dsimp only at LV);obtain ⟨A44,n44,c44,rfl⟩:=LV.form;have H:=H.gI aot;have H:=H.aN (hv 7 49 (hc 7 (by decide)) rfl) rfl;have Hb:=H.full;have H:=Hb;clear hc;refine jl JJ [_,_,_,_,_] H wn rfl rfl rfl rfl ?_;clear H;intro a H;refine aC ⟨rfl,?_⟩;exact dw (by kernel_rfl) (Dc aJ) rfl rfl HT Hb hG hv (fun _ _ h=>h) (⟨_,_,_,rfl,LV⟩) H
    · intro _ _ _ _ _ _ _ hB;exact absurd hB (by decide)
    intro _ _ _ _ _ _ hB;exact absurd hB (by decide)
  · clear H;intro o_ aP a w G1 jv _ hc hG HT hv;obtain rfl:_=o_:=Option.some.inj jv;clear jv;have H:=HT;have Hb:=H.full;have H:=Hb;clear hc;refine dJ dB H wn rfl ?_;clear H;intro b9 a w uT H;refine aC ⟨rfl,b9,?_⟩;exact Cw (by kernel_rfl) rfl HT Hb hG (fun j e h1 h2 h3=>hv _ j e h1 h2 h3) (rfl) H
  clear H;intro b9 a w G gM H hv;have H:=H.aN (hv 9 9 rfl rfl) rfl;obtain ⟨u50,aou,abn⟩:=hv 8 50 (by decide) rfl;(try dsimp only at abn);obtain ⟨qA,qn,qc,rfl,Gn⟩:=abn;have H:=H.gI aou;clear hv;refine aY dB 0 (vs:=[_,_,_,_,_]) _ H wn rfl rfl rfl rfl rfl rfl rfl rfl ?_;clear H;intro w H;dsimp only [List.set,setRow] at H;replace q2:=fun j v hj=>aG gM (q2 j v hj);replace q8:=fun j v hj=>aG gM (q8 j v hj);replace q6:=aG gM q6;replace q7:=aG gM q7;replace wR:=wR.mono gM;replace xQ:=xQ.mono gM;replace hh:=hh.mono gM;obtain ⟨Gf,hGf⟩:∃ g,g=G:=⟨_,rfl⟩;refine aC ⟨rfl,?_⟩;refine oH ?_;refine rR (ι:=Int × Int × GH) (Tc:=[(2,_),(4,_),(6,_),(7,_),(8,_),(9,_)]) (Lc:=[(_,_)]) (fun gh=>[]) (fun gh=>[(b9,.cells #[.slice qA qn qc,vi gh.1,vi gh.2.1,.slice none 0 0,.slice none 0 0] 29 (0,0))]) (fun gh=>gh.2.2) (fun gh=>gh.1=(if ny acc h then 0 else h.marks.ins)∧gh.2.1=(if ny acc h then 0 else h.marks.move)∧(∀ b o,G b=some o→gh.2.2 b=some o)) (by exact (H.dX (Pl:=[_,_]) (dN:=[_,_]) [1,0] (by decide) rfl).sub ⟨rfl,rfl,rfl,rfl,rfl,rfl,aL⟩) ?_ ?_
  · refine mE 2 H ?_;clear H;intro a H;refine kL aT H wn rfl (H.hp.aH (q8 0 _ rfl)) rfl ?_;clear H;refine mX 2 54 ?_ ?_
    · intro ng
      try have p54:=dT ng
      refine av 2 ?_;intro a H;refine kL aT H (wg H rfl rfl ng) rfl (H.hp.aH (q8 0 _ rfl)) rfl ?_;clear H;intro a H;refine jF H (wg H rfl rfl ng) rfl rfl (wR _ _ (fun _ _ h=>h) H.ro h.marks.ins) rfl ?_;clear H;rintro v58 G58 a w rfl ant H;refine qb 2 H ?_ ?_ <;> clear H
      · intro p59
        refine av 3 ?_;intro a H;refine aY aT 0 (vs:=[_]) _ H wn rfl rfl rfl rfl rfl rfl rfl rfl ?_;clear H;intro w H;dsimp only [List.set,setRow] at H;refine bJ 2 H ?_;clear H;intro a H;refine aY aT 0 (vs:=[_]) _ H wn rfl rfl rfl rfl rfl rfl rfl rfl ?_;clear H;intro w H;dsimp only [List.set,setRow] at H;refine aC ?_;refine ⟨(_,_,_),by exact (H.dX (Pl:=[_,_]) (dN:=[_,_]) [1,0] (by decide) rfl).sub ⟨rfl,rfl,rfl,rfl,rfl,rfl,aL⟩,?_⟩;(try dsimp only)
        first
        | exact ⟨(ak ⟨by assumption,by assumption⟩).symm,(ak ⟨by assumption,by assumption⟩).symm,by assumption⟩
        | exact ⟨(ah (fun hi=>by simp_all [ny])).symm,(ah (fun hi=>by simp_all [ny])).symm,by first|assumption|exact fun _ _ h=>h⟩
      intro p59
      intro a H;refine iw ?_;refine ⟨(_,_,_),by exact (H.dX (Pl:=[_,_]) (dN:=[_,_]) [1,0] (by decide) rfl).sub ⟨rfl,rfl,rfl,rfl,rfl,rfl,aL⟩,?_⟩;(try dsimp only)
      first
      | exact ⟨(ak ⟨by assumption,by assumption⟩).symm,(ak ⟨by assumption,by assumption⟩).symm,by assumption⟩
      | exact ⟨(ah (fun hi=>by simp_all [ny])).symm,(ah (fun hi=>by simp_all [ny])).symm,by first|assumption|exact fun _ _ h=>h⟩
    intro ng
    try have p54:=dF ng
    refine av 7 ?_;intro a H;refine iw ?_;refine ⟨(_,_,_),by exact (H.dX (Pl:=[_,_]) (dN:=[_,_]) [1,0] (by decide) rfl).sub ⟨rfl,rfl,rfl,rfl,rfl,rfl,aL⟩,?_⟩;(try dsimp only)
    first
    | exact ⟨(ak ⟨by assumption,by assumption⟩).symm,(ak ⟨by assumption,by assumption⟩).symm,by assumption⟩
    | exact ⟨(ah (fun hi=>by simp_all [ny])).symm,(ah (fun hi=>by simp_all [ny])).symm,by first|assumption|exact fun _ _ h=>h⟩
  clear H;rintro ⟨io,mo,gk⟩ a w hI H;dsimp only at hI H;obtain ⟨hio,hmo,mG⟩:=hI;replace q2:=fun j v hj=>aG mG (q2 j v hj);replace q8:=fun j v hj=>aG mG (q8 j v hj);replace q6:=aG mG q6;replace q7:=aG mG q7;replace wR:=wR.mono mG;replace xQ:=xQ.mono mG;replace hh:=hh.mono mG;replace Gn:=Gn.mono mG;dsimp only [lca,bK] at H;refine mE 3 H ?_;clear H;intro a H;refine kL Ce H wn rfl (H.hp.aH (q8 2 _ rfl)) rfl ?_;clear H;refine av 4 ?_;intro a H;refine eH (ι:=Nat × aj × List aj × OL × GH) (Tc:=[(2,_),(4,_),(6,_),(7,_),(9,_),(65,_),(66,_)]) (Lc:=[(_,_)]) (fun gh=>[(67,vi gh.1)]) (fun gh=>[(b9,.cells #[.slice qA qn qc,vi io,vi mo,gh.2.1,.slice none 0 0] 29 (0,0))]++gh.2.2.2.1) (fun gh=>gh.2.2.2.2) (fun gh=>gh.1≤h.marks.bH.length∧bX 159 2 gh.2.1 ((h.marks.bH.take gh.1).filter fun x=>!rej x.rev).length gh.2.2.1 gh.2.2.2.1∧bV gh.2.2.2.2 2 (((h.marks.bH.take gh.1).filter fun x=>!rej x.rev).map fO.dat) gh.2.2.1∧(∀ b o,gk b=some o→gh.2.2.2.2 b=some o)) (fun gh=>h.marks.bH.length - gh.1) ((0,.slice none 0 0,[],[],gk)) (by exact (H.Jy (A:=[_,_])).sub ⟨rfl,rfl,rfl,rfl,rfl,rfl,rfl,rfl,aL⟩) ?_ ?_
  · exact ⟨by omega,bX.nil,bV.nil,fun _ _ h=>h⟩
  clear H;rintro ⟨k,v,xs,Ld,g⟩ a w hI H;dsimp only at hI H;obtain ⟨hk,hrw,dQ,hgm⟩:=hI;have hfl:=List.length_filter_le (fun x:fO=>!rej x.rev) (h.marks.bH.take k);rw [List.length_take] at hfl;dsimp only [lca,bK] at H;refine iI 4 H ?_ ?_ <;> clear H
  · intro p68
    have hk2:k < h.marks.bH.length:=by omega
    obtain ⟨bd,od,rfl,hrow⟩:=Ob (hh.bH.mono hgm) hk2;refine av 5 ?_;intro a H;refine aR oG (cs:=[_,_]) H wn rfl rfl (fun j v hj=>H.hp.aH (hrow j v hj)) rfl ?_;clear H;intro a H;refine dJ oG H wn rfl ?_;clear H;intro b11 a w IZ H;refine aY oG 0 (vs:=[_,_]) _ H wn rfl rfl rfl rfl rfl rfl rfl rfl ?_;clear H;intro w H;dsimp only [List.set,setRow] at H;refine bJ 2 H ?_;clear H;intro a H;refine kL Ho H wn rfl (H.hp.aH (aG hgm q7)) rfl ?_;clear H;refine av 2 ?_;intro a H;refine jF H wn rfl rfl (xQ _ _ hgm H.ro h.marks.bH[k].rev) rfl ?_;clear H;rintro v74 XH a w rfl O5 H;refine qb 2 H ?_ ?_ <;> clear H
    · intro p75
      refine av 4 ?_;intro a H;refine aR oG (cs:=[_,_]) H wn rfl rfl (H.hp.bT 0 rfl rfl) rfl ?_;clear H;intro a H;refine gQ uD oG [_,_] [_,_] H wn rfl rfl rfl rfl rfl (by intro i q h;match i,h with|0,h=>exact h|n+1,h=>simp at h) rfl rfl ?_;clear H;intro b80 a w avb H;refine mI (Li:=[_,_,_,_]) (Lo:=Ld) (news:=h.marks.bH[k].cells) uD oG rfl rfl H wn rfl rfl hrw rfl (H.hp.bT 0 rfl rfl) rfl (by omega) (by omega) rfl ?_;clear H;intro v81 afl a w abF H;obtain ⟨A81,c81,rfl,-,-⟩:=abF.shape;refine bJ 2 H ?_;clear H;intro a H;refine aY Ce 3 (vs:=[_]) _ H wn rfl rfl rfl rfl rfl rfl rfl rfl ?_;clear H;intro w H;dsimp only [List.set,setRow] at H;refine bJ 4 H ?_;clear H;intro a H;refine aC ?_;refine dx ((k+1,_,xs++h.marks.bH[k].cells,afl,XH)) (by exact (H.dX (Pl:=[_,_,_,_]) (dN:=[_,_]) [2,3] (by decide) rfl).sub ⟨rfl,rfl,rfl,rfl,rfl,rfl,rfl,rfl,aL⟩) ?_
      (try dsimp only);exact ⟨by omega,by rw [fV hk2,List.filter_append,List.filter_cons_of_pos (by simp_all),List.filter_nil,iM];exact abF,by rw [fV hk2,List.filter_append,List.filter_cons_of_pos (by simp_all),List.filter_nil,kV];exact (dQ.mono O5).snoc (YW _ _) rfl,fun b o h=>O5 b o (hgm b o h)⟩
    intro p75
    refine av 4 ?_;intro a H;refine aC ?_;refine dx ((k+1,v,xs,Ld,XH)) (by exact (H.dX (Pl:=[_,_,_]) (dN:=[_,_]) [1,2] (by decide) rfl).sub ⟨rfl,rfl,rfl,rfl,rfl,rfl,rfl,rfl,aL⟩) ?_
    (try dsimp only);exact ⟨by omega,by rw [fV hk2,List.filter_append,List.filter_cons_of_neg (by simp_all),List.filter_nil,fZ];exact hrw,by rw [fV hk2,List.filter_append,List.filter_cons_of_neg (by simp_all),List.filter_nil,fZ];exact dQ.mono O5,fun b o h=>O5 b o (hgm b o h)⟩
  intro p68
  obtain rfl:k=h.marks.bH.length:=by omega
  rw [vJ] at hrw dQ;intro a H;obtain ⟨Gr,hmr,hdr,H⟩:=St.nO (Li:=[_,_]) H hrw (rows:=(h.marks.bH.filter fun x=>!rej x.rev).map fO.dat) (by simp) dQ;obtain ⟨rA,rn,rc,rfl⟩:=hdr.form;(try dsimp only [lca,bK] at H);have hgr:∀ b o,gk b=some o→Gr b=some o:=fun b o h=>hmr b o (hgm b o h);replace q2:=fun j v hj=>aG hgr (q2 j v hj);replace q8:=fun j v hj=>aG hgr (q8 j v hj);replace q6:=aG hgr q6;replace q7:=aG hgr q7;replace wR:=wR.mono hgr;replace xQ:=xQ.mono hgr;replace hh:=hh.mono hgr;replace Gn:=Gn.mono hgr;refine mE 3 H ?_;clear H;intro a H;refine aR dB (cs:=[.slice pA pn pc,vi h.marks.ins,vi h.marks.move,.slice dA h.marks.bH.length dc,.slice lA ln lc]) H wn rfl rfl (fun j v hj=>H.hp.aH (q2 j v hj)) rfl ?_;clear H;intro a H;refine s_call ais H wn rfl (apx _ _ H.ro h _ _ _ hh (by omega)) rfl ?_;clear H;rintro v86 G86 a w ⟨bg,rfl,hit⟩ Ew H;obtain ⟨all,hall⟩:∃ L,L=qY h.marks.layers.length h.marks.layers:=⟨_,rfl⟩;rw [← hall] at hit;obtain ⟨hfl,hne⟩:=IV h.marks.layers.length h.marks.layers (bR _);rw [← hall] at hfl hne;have hsum:∀ k,k≤all.length→k≤((all.take k).flatMap Prod.snd).length∧((all.take k).flatMap Prod.snd).length≤h.marks.layers.length:=aly hfl hne;replace q2:=fun j v hj=>aG Ew (q2 j v hj);replace q6:=aG Ew q6;replace q7:=aG Ew q7;replace wR:=wR.mono Ew;replace xQ:=xQ.mono Ew;replace hh:=hh.mono Ew;replace Gn:=Gn.mono Ew;replace hdr:=hdr.mono Ew;refine bJ 2 H ?_;clear H;intro a H;refine agf (ι:=aj × List aS × aj × List cB × List aj × OL) (κ:=Empty) (Lc:=[(_,_)]) (fun (k:Nat) (gh:aj × List aS × aj × List cB × List aj × OL)=>[(b9,.cells #[gh.1,vi io,vi mo,.slice rA rn rc,gh.2.2.1] 29 (0,0))]) (fun (k:Nat) (gh:aj × List aS × aj × List cB × List aj × OL)=>gh.2.2.2.2.2) (fun (k:Nat) (gh:aj × List aS × aj × List cB × List aj × OL) (g:GH)=>au g (.sl 2 (gh.2.1.map aS.dat)) gh.1∧bX 161 4 gh.2.2.1 gh.2.2.2.1.length gh.2.2.2.2.1 gh.2.2.2.2.2∧bV g 4 (gh.2.2.2.1.map cB.dat) gh.2.2.2.2.1∧qV acc rej h.props (all.drop k) (gh.2.1,gh.2.2.2.1)=qV acc rej h.props all (h.props,[])∧gh.2.1.length≤h.props.length+k∧gh.2.2.2.1.length≤((all.take k).flatMap Prod.snd).length) (fun x=>x.elim) (fun x=>x.elim) (fun x=>x.elim) (fun x=>x.elim) ((.slice qA qn qc,h.props,.slice none 0 0,[],[],[])) (by exact H.Jy (A:=[_,_])) rfl Zo (hit) (fun _ _ h=>h) rfl (fun k args g h=>by obtain ⟨_,_,_,rfl,_⟩:=aag h;rfl) (fun k i G G' hm h=>⟨h.1.mono hm,h.2.1,h.2.2.1.mono hm,h.2.2.2⟩) (fun x=>x.elim) (⟨Gn,bX.nil,bV.nil,rfl,bR _,iH _⟩) ?_ ?_ ?_
  · clear H;intro l16 GZ Cu bk k args gh qC w16 F16 B16 a anm jW hI amD anA avw H;obtain ⟨pv,ps,vy,ly,xs,Ly⟩:=gh;dsimp only at hI H;obtain ⟨hk,tA,tc,rfl,hlr⟩:=aag anm;dsimp only [Bh,List.cons_append,List.nil_append] at H;obtain ⟨hpv,hrw,dQ,hdc,hpl,hll⟩:=hI;obtain ⟨pvA,pvn,pvc,rfl⟩:=hpv.form;obtain ⟨vyA,vyc,rfl,-,-⟩:=hrw.shape;obtain ⟨key,hkey⟩:∃ x,x=all[k].1:=⟨_,rfl⟩;obtain ⟨ls,hls⟩:∃ x,x=all[k].2:=⟨_,rfl⟩;rw [← hls] at hlr;rw [← hkey,← hls] at H;have hs1:=hsum k (by omega);have hs2:=hsum (k+1) (by omega)
    have hs3:((all.take (k+1)).flatMap Prod.snd).length=((all.take k).flatMap Prod.snd).length+ls.length:=by rw [fV hk,List.flatMap_append,iM,hls];simp
    have Gp:=att h.props key ls;refine mE 5 H ?_;clear H;intro a H;refine aC ?_;refine amD _ _ _ _ _ _ (by exact H) ?_;clear H;intro w H;refine mE 11 H ?_;clear H;intro a H;refine eH (ι:=Nat × aj × List aj × OL × GH) (Tc:=[(2,_),(6,_),(7,_),(9,_),(12,_),(13,_),(89,_),(90,_)]) (Lc:=[(_,_),(_,_),(_,_)]) (fun gh=>[(14,gh.2.1),(91,vi gh.1)]) (fun gh=>[]++((bk++Ly)++gh.2.2.2.1)) (fun gh=>gh.2.2.2.2) (fun gh=>gh.1≤ls.length∧bX 242 2 gh.2.1 gh.1 gh.2.2.1 gh.2.2.2.1∧bV gh.2.2.2.2 2 ((ls.take gh.1).map fun y=>MK (y.before,y.had)) gh.2.2.1∧(∀ b o,qC b=some o→gh.2.2.2.2 b=some o)) (fun gh=>ls.length - gh.1) ((0,.slice none 0 0,[],[],qC)) (by exact (H.Jy (A:=[_,_,_])).sub ⟨rfl,rfl,rfl,rfl,rfl,rfl,rfl,rfl,rfl,rfl,aL⟩) ?_ ?_
    · exact ⟨by omega,bX.nil,bV.nil,fun _ _ h=>h⟩
    clear H;rintro ⟨i,vs,xs2,Ls,g2⟩ a w hI H;dsimp only at hI H;obtain ⟨hi,hrw2,ug,jg⟩:=hI;dsimp only [lca,bK] at H;refine iI 4 H ?_ ?_ <;> clear H
    · intro JB
      have hi2:i < ls.length:=by omega
      obtain ⟨bl,ol,rfl,hrow⟩:=EH (hlr.mono jg) hi2;refine av 5 ?_;intro a H;refine aR jy (cs:=[_,_,_,_]) H wn rfl rfl (fun j v hj=>H.hp.aH (hrow j v hj)) rfl ?_;clear H;intro a H;refine dJ jy H wn rfl ?_;clear H;intro b16 a w aay H;refine aY jy 0 (vs:=[_,_,_,_]) _ H wn rfl rfl rfl rfl rfl rfl rfl rfl ?_;clear H;intro w H;dsimp only [List.set,setRow] at H;refine bJ 3 H ?_;clear H;intro a H;refine aR jy (cs:=[_,_,_,_]) H wn rfl rfl (H.hp.bT 0 rfl rfl) rfl ?_;clear H;intro a H;refine s_call ait H wn rfl (afN _ _ H.ro ls[i]) rfl ?_;clear H;rintro v97 G97 a w rfl aaW H;refine gQ Ht sG [_,_] [_,_] H wn rfl rfl rfl rfl rfl (by intro i q h;match i,h with|0,h=>exact h|n+1,h=>simp at h) rfl rfl ?_;clear H;intro b98 a w avc H;refine mI (Li:=[_,_,_,_,_]++(bk++Ly)) (Lo:=Ls) (news:=[vi ls[i].before,.bool ls[i].had]) Ht sG rfl rfl (St.un (A:=[_,_,_,_,_]) H) wn rfl rfl hrw2 rfl (H.hp.bT 0 rfl rfl) rfl (by omega) (by omega) rfl ?_;clear H;intro v99 afw a w aoa H;have H:=H.assoc;dsimp only [lca,bK] at H;refine bJ 5 H ?_;clear H;intro a H;refine aC ?_;refine dx ((i+1,v99,xs2++[vi ls[i].before,.bool ls[i].had],afw,G97)) (by exact (H.dX (Pl:=[_,_,_,_,_]) (dN:=[_,_,_]) [2,3,4] (by decide) rfl).sub ⟨rfl,rfl,rfl,rfl,rfl,rfl,rfl,rfl,rfl,rfl,aL⟩) ?_
      (try dsimp only);exact ⟨by omega,aoa,by rw [fV hi2,kV];exact (ug.mono aaW).snoc (aeg _ (ls[i].before,ls[i].had)) rfl,fun b o h=>aaW b o (jg b o h)⟩
    intro JB
    obtain rfl:i=ls.length:=by omega
    rw [vJ] at ug;refine av 3 ?_;intro a H;refine aR dB (cs:=[.slice pA pn pc,vi h.marks.ins,vi h.marks.move,.slice dA h.marks.bH.length dc,.slice lA ln lc]) H wn rfl rfl (fun j v hj=>H.hp.aH (aG jg (aG jW (q2 j v hj)))) rfl ?_;clear H;refine av 1 ?_;intro a H;refine s_call aiu H wn rfl (aqA _ _ H.ro h _ _ _ (hh.mono fun b o h=>jg b o (jW b o h)) key (by omega)) rfl ?_;clear H;rintro atS auu a w rfl aaN H;refine gQ Ht sG [_,_] [_,_] H wn rfl rfl rfl rfl rfl (by intro i q h;match i,h with|0,h=>exact h|n+1,h=>simp at h) rfl rfl ?_;clear H;intro auE a w auL H;refine mI (Li:=[_,_,_,_]++(bk++Ly)) (Lo:=Ls) (news:=[vi (zO h.props key).1,.bool (zO h.props key).2]) Ht sG rfl rfl (St.un (A:=[_,_,_,_]) H) wn rfl rfl hrw2 rfl (H.hp.bT 0 rfl rfl) rfl (by omega) (by omega) rfl ?_;clear H;intro avJ auC a w anR H;obtain ⟨Gs,hms,Pp,H⟩:=St.nO (Li:=[_,_,_,_]++(bk++Ly)) H anR (rows:=(qP h.props key ls).map MK) (by simp [qP]) (by have h1:=(ug.mono aaN).snoc (aeg _ (zO h.props key)) rfl;simpa [qP,kV,List.map_map,Function.comp_def] using h1);dsimp only [lca,bK] at H;obtain ⟨sA,sc,rfl,-,-,-⟩:=Pp.slice;rw [bO,Gp] at Pp H;have hgs:∀ b o,qC b=some o→Gs b=some o:=fun b o h=>hms b o (aaN b o (jg b o h));refine bJ 12 H ?_;clear H;intro a H;refine eH (ι:=Nat × Nat × GH) (Tc:=[(6,_),(7,_),(9,_),(12,_),(13,_),(14,_),(107,_),(108,_)]) (Lc:=[(_,_),(_,_),(_,_),(_,_)]) (fun gh=>[(17,vi gh.2.1),(109,vi gh.1)]) (fun gh=>[]++(bk++Ly)) (fun gh=>gh.2.2) (fun gh=>gh.1≤ls.length∧gh.2.1≤gh.1∧lJ acc (ls.drop gh.1) gh.1 gh.2.1=lJ acc ls 0 0∧(∀ b o,Gs b=some o→gh.2.2 b=some o)) (fun gh=>ls.length - gh.1) ((0,0,Gs)) sB ?_ ?_
    · exact ⟨by omega,bR _,by rw [List.drop_zero],fun _ _ h=>h⟩
    clear H;rintro ⟨i2,c2,g3⟩ a w hI H;dsimp only at hI H;obtain ⟨hi3,hc3,hfs,wW⟩:=hI;dsimp only [lca,bK] at H;refine iI 4 H ?_ ?_ <;> clear H
    · intro aqi
      have hi4:i2 < ls.length:=by omega
      obtain ⟨bl,ol,rfl,hrow⟩:=EH (hlr.mono fun b o h=>wW b o (hgs b o h)) hi4;refine av 6 ?_;intro a H;refine aR jy (cs:=[_,_,_,_]) H wn rfl rfl (fun j v hj=>H.hp.aH (hrow j v hj)) rfl ?_;clear H;intro a H;refine dJ jy H wn rfl ?_;clear H;intro b19 a w aaz H;refine bJ 1 H ?_;clear H;intro a H;refine aY jy 0 (vs:=[_,_,_,_]) _ H wn rfl rfl rfl rfl rfl rfl rfl rfl ?_;clear H;intro w H;dsimp only [List.set,setRow] at H;refine bJ 2 H ?_;clear H;intro a H;refine kL Ho H wn rfl (H.hp.aH (aG wW (aG hgs (aG jW q6)))) rfl ?_;clear H;refine av 2 ?_;intro a H;refine jF H wn rfl rfl (wR _ _ (fun b o h=>wW b o (hgs b o (jW b o h))) H.ro ls[i2].rev) rfl ?_;clear H;rintro v117 Xw a w rfl aaO H;refine qb 1 H ?_ ?_ <;> clear H
      · intro aql
        refine av 8 ?_;intro a H;refine aC ?_;refine dx ((i2+1,i2+1,Xw)) (by exact (H.dX (Pl:=[_,_,_,_,_]) (dN:=[_,_,_,_]) [1,2,3,4] (by decide) rfl).sub ⟨rfl,rfl,rfl,rfl,rfl,rfl,rfl,rfl,rfl,rfl,aL⟩) ?_
        (try dsimp only);exact ⟨by omega,bR _,by rw [qR hi4,lJ,ak (by assumption)] at hfs;exact hfs,fun b o h=>aaO b o (wW b o h)⟩
      intro aql
      refine av 4 ?_;intro a H;refine aC ?_;refine dx ((i2+1,c2,Xw)) (by exact (H.dX (Pl:=[_,_,_,_,_]) (dN:=[_,_,_,_]) [1,2,3,4] (by decide) rfl).sub ⟨rfl,rfl,rfl,rfl,rfl,rfl,rfl,rfl,rfl,rfl,aL⟩) ?_
      (try dsimp only);exact ⟨by omega,by omega,by rw [qR hi4,lJ,ah (by simp_all)] at hfs;exact hfs,fun b o h=>aaO b o (wW b o h)⟩
    intro aqi
    obtain rfl:i2=ls.length:=by omega
    rw [List.drop_length,lJ] at hfs;have hgt:∀ b o,qC b=some o→g3 b=some o:=fun b o h=>wW b o (hgs b o h);obtain ⟨bs,os,rfl,hr2⟩:=aej (Pp.mono wW) (k:=c2) (by rw [Gp];omega);obtain ⟨PX,hn0⟩:∃ s,s=(qP h.props key ls)[c2]'(by rw [Gp];omega):=⟨_,rfl⟩;rw [← hn0] at hr2
    intro a H;have hgd:(qP h.props key ls).getD c2 (0,false)=PX:=by rw [hn0,List.getD_eq_getElem?_getD,dZ (show c2 < (qP h.props key ls).length by rw [Gp];omega)];rfl
    refine mE 4 H ?_;clear H;intro a H;refine yx Ht sG c2 H wn rfl rfl rfl (by omega) rfl ?_;clear H;intro a H;refine aR sG (cs:=[vi PX.1,.bool PX.2]) H wn rfl rfl (fun j v hj=>H.hp.aH (hr2 j v hj)) rfl ?_;clear H;intro a H;refine dJ sG H wn rfl ?_;clear H;intro b20 a w auN H;refine aY sG 0 (vs:=[_,_]) _ H wn rfl rfl rfl rfl rfl rfl rfl rfl ?_;clear H;intro w H;dsimp only [List.set,setRow] at H;refine bJ 7 H ?_;clear H;intro a H;refine eH (ι:=Nat × (Int × Bool) × aj × List cB × List aj × OL × GH) (Tc:=[(7,_),(9,_),(12,_),(13,_),(14,_),(20,_)]) (Lc:=[(_,_),(_,_),(_,_)]) (fun gh=>[(21,vi gh.1)]) (fun gh=>[(b20,.cells #[vi gh.2.1.1,.bool gh.2.1.2] 242 (0,0)),(b9,.cells #[.slice pvA pvn pvc,vi io,vi mo,.slice rA rn rc,gh.2.2.1] 29 (0,0))]++(bk++gh.2.2.2.2.2.1)) (fun gh=>gh.2.2.2.2.2.2) (fun gh=>c2≤gh.1∧gh.1≤ls.length∧bX 161 4 gh.2.2.1 gh.2.2.2.1.length gh.2.2.2.2.1 gh.2.2.2.2.2.1∧bV gh.2.2.2.2.2.2 4 (gh.2.2.2.1.map cB.dat) gh.2.2.2.2.1∧gh.2.2.2.1++(rF rej (qP h.props key ls) (ls.drop gh.1) gh.1 gh.2.1).1=ly++(pY acc rej h.props key ls).1∧(rF rej (qP h.props key ls) (ls.drop gh.1) gh.1 gh.2.1).2=(pY acc rej h.props key ls).2∧gh.2.2.2.1.length≤ly.length+gh.1∧(∀ b o,g3 b=some o→gh.2.2.2.2.2.2 b=some o)) (fun gh=>ls.length - gh.1) ((c2,PX,.slice vyA ly.length vyc,ly,xs,Ly,g3)) (by exact (H.dX (Pl:=[_,_,_,_,_]) (dN:=[_,_,_,_,_]) [1,2,3,0,4] (by decide) rfl).sub ⟨rfl,rfl,rfl,rfl,rfl,rfl,rfl,aL⟩) ?_ ?_
    · exact ⟨bR _,by omega,hrw,dQ.mono hgt,by rw [pY,← hfs,hgd],by rw [pY,← hfs,hgd],by show ly.length≤ly.length+c2;omega,fun _ _ h=>h⟩
    clear H;rintro ⟨i3,now,vy3,Dh,Xi,Ry,g4⟩ a w hI H;dsimp only at hI H;obtain ⟨hi5,hi6,hrw3,UC,hq1,hq2,hq3,OZ⟩:=hI;obtain ⟨QL,QM,rfl,-,-⟩:=hrw3.shape;have hgu:∀ b o,qC b=some o→g4 b=some o:=fun b o h=>OZ b o (hgt b o h);dsimp only [lca,bK] at H;refine iI 7 H ?_ ?_ <;> clear H
    · intro aqn
      have hi7:i3 < ls.length:=by omega
      obtain ⟨bl,ol,rfl,hrow⟩:=EH (hlr.mono hgu) hi7;rw [qR hi7,rF] at hq1 hq2;refine av 5 ?_;intro a H;refine dI hmx [[],[],[],[1,2],[1,2,3],(ra 1 4),(ra 0 6)] [6] (by kernel_rfl) [_,_,_,(aM bl (ol+i3*4)),_,_] H (aD (X0 rfl fun hG=>Rg Ho rfl (aG hG (aG hgu (aG jW q7)))) (Z0 rfl (Rm rfl)) (Z0 rfl (Rm rfl)) ?_ (bM (Z1 3 135 rfl (Rf Tf rfl)) (bM (X1 4 136 rfl fun hG=>Rg aT rfl (aG hG (hrow 0 _ rfl))) (bM (bS rfl) cO)))) ?_
      · refine dL 1 133 2 134 rfl rfl fun _ a w G1 hG HT H fin=>?_;refine yx nP jy i3 H wn rfl rfl rfl (by omega) rfl ?_;clear H;intro a H;exact fin H iJ rfl
      clear H;intro a w G FP H hv;have H:=H.aN (hv 0 132 rfl rfl) rfl;have H:=H.aN (hv 5 137 rfl rfl) rfl;clear hv;refine jF H wn rfl rfl (xQ _ _ (fun b o h=>FP b o (hgu b o (jW b o h))) H.ro ls[i3].rev) rfl ?_;clear H;rintro v138 afi a w rfl I9 H;refine aC ⟨rfl,?_⟩;refine oH ?_;refine iI 0 H ?_ ?_ <;> clear H
      · intro aqp
        refine av 5 ?_;intro a H;refine aC ?_;refine dx ((i3+1,now,.slice QL Dh.length QM,Dh,Xi,Ry,afi)) sB ?_
        (try dsimp only);exact ⟨by omega,by omega,hrw3,UC.mono fun b o h=>I9 b o (FP b o h),by rw [ak (by assumption)] at hq1;exact hq1,by rw [ak (by assumption)] at hq2;exact hq2,by omega,fun b o h=>I9 b o (FP b o (OZ b o h))⟩
      intro aqp
      rw [ah (by simp_all)] at hq1 hq2;refine av 2 ?_
      have Db:∀ (aJ bQ:Nat) (v:aj) (G G':GH),(∀ k o,G k=some o→G' k=some o)→(fun (aJ bQ:Nat) (v:aj) (G:GH)=>match bQ with|0=>v=(aM b9 1)|1=>v=(aM b9 4)|2=>v=.slice QL Dh.length QM|3=>v=.slice (some ⟨bl,ol,none⟩) ls.length tc|4=>v=vi i3|5=>v=(aM bl (ol+i3*4))|6=>v=.agg ls[i3].cells.toArray|7=>v=Hf now|8=>v=.agg (cB.cells ⟨ls[i3].rev,ls[i3].key,now.1,now.2⟩).toArray|9=>v=.slice (some ⟨aJ,0,none⟩) 1 1|_=>True) aJ bQ v G→(fun (aJ bQ:Nat) (v:aj) (G:GH)=>match bQ with|0=>v=(aM b9 1)|1=>v=(aM b9 4)|2=>v=.slice QL Dh.length QM|3=>v=.slice (some ⟨bl,ol,none⟩) ls.length tc|4=>v=vi i3|5=>v=(aM bl (ol+i3*4))|6=>v=.agg ls[i3].cells.toArray|7=>v=Hf now|8=>v=.agg (cB.cells ⟨ls[i3].rev,ls[i3].key,now.1,now.2⟩).toArray|9=>v=.slice (some ⟨aJ,0,none⟩) 1 1|_=>True) aJ bQ v G':=by
        intro aJ bQ v G G' hm h
        match bQ,h with
        | 0,h=>exact h
        | 1,h=>exact h
        | 2,h=>exact h
        | 3,h=>exact h
        | 4,h=>exact h
        | 5,h=>exact h
        | 6,h=>exact h
        | 7,h=>exact h
        | 8,h=>exact h
        | 9,h=>exact h
        | 10,h=>exact trivial
        | 11,h=>exact trivial
        | 12,h=>exact trivial
        | 13,h=>exact trivial
        | _+14,h=>exact trivial
      intro a H;refine afU (hmx) [[],[0],[0,1],[],[],[3,4],[3,4,5],[],(ra 3 5),(ra 3 6),(ra 0 10),(ra 0 11),(ra 0 12),(ra 0 13)] (ra 10 4) (by kernel_rfl) (by kernel_rfl) 9 (by decide) (.cells #[vi ls[i3].rev,vi ls[i3].key,vi now.1,.bool now.2] 161 (0,0)) (fun (aJ bQ:Nat) (v:aj) (G:GH)=>match bQ with|0=>v=(aM b9 1)|1=>v=(aM b9 4)|2=>v=.slice QL Dh.length QM|3=>v=.slice (some ⟨bl,ol,none⟩) ls.length tc|4=>v=vi i3|5=>v=(aM bl (ol+i3*4))|6=>v=.agg ls[i3].cells.toArray|7=>v=Hf now|8=>v=.agg (cB.cells ⟨ls[i3].rev,ls[i3].key,now.1,now.2⟩).toArray|9=>v=.slice (some ⟨aJ,0,none⟩) 1 1|_=>True) (fun _ _ i v G hi h=>by
        (iterate 14 (rcases i with _|i;(first|exact h|exact absurd rfl hi)));exact trivial) H ?_ ?_ ?_ (by kernel_rfl)
      · clear H;refine aD ?_ ?_ ?_ ?_ (aD ?_ ?_ ?_ ?_ (aD ?_ ?_ ?_ ?_ (bM ?_ (bM ?_ cO))))
        · intro aJ dD aP a w G1 dH _ _ aK hc hG HT hv;have H:=HT;clear aK;have Hb:=H.full;have H:=Hb;clear hc;refine bJ 1 H ?_;clear H;intro a H;refine aC ⟨rfl,?_⟩;exact dw (by kernel_rfl) (Db aJ) rfl rfl HT Hb hG hv (fun _ _ h=>h) (rfl) H
        · intro aJ dD aP a w G1 dH _ _ aK hc hG HT hv;have H:=HT;clear aK;have H:=H.aN (hv 0 139 (hc 0 (by decide)) rfl) rfl;have Hb:=H.full;have H:=Hb;clear hc;refine bJ 1 H ?_;clear H;intro a H;refine aC ⟨rfl,?_⟩;exact dw (by kernel_rfl) (Db aJ) rfl rfl HT Hb hG hv (fun _ _ h=>h) (rfl) H
        · intro aJ dD aP a w G1 dH _ _ aK hc hG HT hv;have H:=HT;clear aK;have H:=H.aN (hv 1 140 (hc 1 (by decide)) rfl) rfl;have Hb:=H.full;have H:=Hb;clear hc;refine kL JM H wn rfl (H.hp.xY (dH _ (fJ _ (fJ _ (fJ _ (fJ _ eX))))) rfl) rfl ?_;clear H;intro a H;refine aC ⟨rfl,?_⟩;exact dw (by kernel_rfl) (Db aJ) rfl rfl HT Hb hG hv (fun _ _ h=>h) (rfl) H
        · intro aJ dD aP a w G1 dH _ _ aK hc hG HT hv;have H:=HT;clear aK;have Hb:=H.full;have H:=Hb;clear hc;refine bJ 1 H ?_;clear H;intro a H;refine aC ⟨rfl,?_⟩;exact dw (by kernel_rfl) (Db aJ) rfl rfl HT Hb hG hv (fun _ _ h=>h) (rfl) H
        · intro aJ dD aP a w G1 dH _ _ aK hc hG HT hv;have H:=HT;clear aK;have Hb:=H.full;have H:=Hb;clear hc;refine bJ 1 H ?_;clear H;intro a H;refine aC ⟨rfl,?_⟩;exact dw (by kernel_rfl) (Db aJ) rfl rfl HT Hb hG hv (fun _ _ h=>h) (rfl) H
        · intro aJ dD aP a w G1 dH _ _ aK hc hG HT hv;have H:=HT;clear aK;have H:=H.aN (hv 3 142 (hc 3 (by decide)) rfl) rfl;have H:=H.aN (hv 4 143 (hc 4 (by decide)) rfl) rfl;have Hb:=H.full;have H:=Hb;clear hc;refine yx nP jy i3 H wn rfl rfl rfl (by omega) rfl ?_;clear H;intro a H;refine aC ⟨rfl,?_⟩;exact dw (by kernel_rfl) (Db aJ) rfl rfl HT Hb hG hv (fun _ _ h=>h) (rfl) H
        · intro aJ dD aP a w G1 dH _ _ aK hc hG HT hv;have H:=HT;clear aK;have H:=H.aN (hv 5 144 (hc 5 (by decide)) rfl) rfl;have Hb:=H.full;have H:=Hb;clear hc;refine aR jy (cs:=ls[i3].cells) H wn rfl rfl (fun j v hj=>H.hp.aH (aG hG (aG I9 (aG FP (hrow j v hj))))) rfl ?_;clear H;intro a H;refine aC ⟨rfl,?_⟩;exact dw (by kernel_rfl) (Db aJ) rfl rfl HT Hb hG hv (fun _ _ h=>h) (rfl) H
        · intro aJ dD aP a w G1 dH _ _ aK hc hG HT hv;have H:=HT;clear aK;have Hb:=H.full;have H:=Hb;clear hc;refine aR sG (cs:=[vi now.1,.bool now.2]) H wn rfl rfl (fun j v hj=>H.hp.xY (dH _ (fJ _ (fJ _ (fJ _ eX)))) (by simpa using hj)) rfl ?_;clear H;intro a H;refine aC ⟨rfl,?_⟩;exact dw (by kernel_rfl) (Db aJ) rfl rfl HT Hb hG hv (fun _ _ h=>h) (rfl) H
        · intro aJ dD aP a w G1 dH _ _ aK hc hG HT hv;have H:=HT;clear aK;have H:=H.aN (hv 6 145 (hc 6 (by decide)) rfl) rfl;have H:=H.aN (hv 7 146 (hc 7 (by decide)) rfl) rfl;have Hb:=H.full;have H:=Hb;clear hc;refine s_call aiv H wn rfl (alr _ _ H.ro ls[i3] now) rfl ?_;clear H;rintro avM auw a w rfl alD H;refine aC ⟨rfl,?_⟩;exact dw (by kernel_rfl) (Db aJ) rfl rfl HT Hb hG hv alD (rfl) H
        · intro _ _ _ _ _ _ _ _ hB;exact absurd hB (by decide)
        · intro _ _ _ _ _ _ _ hB;exact absurd hB (by decide)
        · intro _ _ _ _ _ _ _ hB;exact absurd hB (by decide)
        · intro _ _ _ _ _ _ _ hB;exact absurd hB (by decide)
        intro _ _ _ _ _ _ _ hB;exact absurd hB (by decide)
      · clear H;intro o_ aP a w G1 jv _ hc hG HT hv;obtain rfl:_=o_:=Option.some.inj jv;clear jv;have H:=HT;have H:=H.aN (hv 0 8 147 (by decide) (hc 8 (by decide)) rfl) rfl;have Hb:=H.full;have H:=Hb;clear hc;refine gQ nP jy [_,_,_,_] [_,_,_,_] H wn rfl rfl rfl rfl rfl (by intro i q h;match i,h with|0,h=>exact h|n+1,h=>simp at h) rfl rfl ?_;clear H;intro X9 a w auM H;refine aC ⟨rfl,X9,?_⟩;exact Cw (by kernel_rfl) rfl HT Hb hG (fun j e h1 h2 h3=>hv _ j e h1 h2 h3) (rfl) H
      clear H;intro X9 a w G Ue H hv;have H:=H.aN (hv 2 141 rfl rfl) rfl;have H:=H.aN (hv 9 148 rfl rfl) rfl;clear hv;refine mI (Li:=[_,_,_,_,_,_]++bk) (Lo:=Ry) (news:=cB.cells ⟨ls[i3].rev,ls[i3].key,now.1,now.2⟩) nP jy rfl rfl (St.un (A:=[_,_,_,_,_,_]) H) wn rfl rfl hrw3 rfl (H.hp.bT 0 rfl rfl) rfl (by omega) (by omega) rfl ?_;clear H;intro avN afB a w abB H;obtain ⟨aus,auG,rfl,-,-⟩:=abB.shape;have H:=H.assoc;dsimp only [lca,bK] at H;refine kH H (Rf Bp rfl (Rf KN rfl ?_));clear H;intro a H;refine aY JM 5 (vs:=[_]) _ H wn rfl rfl rfl rfl rfl rfl rfl rfl ?_;clear H;intro w H;dsimp only [List.set,setRow] at H;refine aC ⟨rfl,?_⟩;refine oH ?_;obtain ⟨_,_,he,hr3⟩:=aej (Pp.mono fun b o h=>Ue b o (I9 b o (FP b o (OZ b o (wW b o h))))) (k:=i3+1) (by rw [Gp];omega)
      injection he with he
      injection he with e1 e2
      subst e1 e2;obtain ⟨nx,hn1⟩:∃ s,s=(qP h.props key ls)[i3+1]'(by rw [Gp];omega):=⟨_,rfl⟩;rw [← hn1] at hr3
      have hnx:nx=(qP h.props key ls).getD (i3+1) (0,false):=by rw [hn1,List.getD_eq_getElem?_getD,dZ (show i3+1 < (qP h.props key ls).length by rw [Gp];omega)];rfl
      refine mE 4 H ?_;clear H;intro a H;refine yx Ht sG (i3+1) H wn rfl rfl (by omega) (by omega) rfl ?_;clear H;intro a H;refine aR sG (cs:=[vi nx.1,.bool nx.2]) H wn rfl rfl (fun j v hj=>H.hp.aH (hr3 j v hj)) rfl ?_;clear H;intro a H;refine aY sG 4 (vs:=[_,_]) _ H wn rfl rfl rfl rfl rfl rfl rfl rfl ?_;clear H;intro w H;dsimp only [List.set,setRow] at H;refine bJ 5 H ?_;clear H;intro a H;refine aC ?_;refine dx ((i3+1,nx,_,Dh++[⟨ls[i3].rev,ls[i3].key,now.1,now.2⟩],Xi++cB.cells ⟨ls[i3].rev,ls[i3].key,now.1,now.2⟩,afB,_)) (by exact (H.dX (Pl:=[_,_,_,_,_,_]) (dN:=[_,_,_,_,_]) [1,2,3,4,5] (by decide) rfl).sub ⟨rfl,rfl,rfl,rfl,rfl,rfl,rfl,aL⟩) ?_
      (try dsimp only);exact ⟨by omega,by omega,by rw [iM];exact abB,by rw [kV];exact (UC.mono fun b o h=>Ue b o (I9 b o (FP b o h))).snoc (apc _ ⟨ls[i3].rev,ls[i3].key,now.1,now.2⟩) rfl,by rw [jm,hnx];exact hq1,by rw [hnx];exact hq2,by rw [iM];show Dh.length+1≤_;omega,fun b o h=>Ue b o (I9 b o (FP b o (OZ b o h)))⟩
    intro aqn
    obtain rfl:i3=ls.length:=by omega
    rw [List.drop_length,rF] at hq1 hq2;rw [fZ] at hq1;have hq4:=TG acc rej h.props key ls;refine av 2 ?_;intro a H;refine aR dB (cs:=[_,_,_,_,_]) H wn rfl rfl (H.hp.bT 4 rfl rfl) rfl ?_;clear H;refine av 1 ?_;intro a H;refine aR sG (cs:=[_,_]) H wn rfl rfl (H.hp.bT 3 rfl rfl) rfl ?_;clear H;intro a H;refine s_call aiw H wn rfl (aug _ _ H.ro ps io mo _ _ _ _ _ _ _ (hpv.mono hgu) key now (by omega)) rfl ?_;clear H;rintro v160 auy a w ⟨avI,rfl,abf⟩ anp H;obtain ⟨aff,n160,c160,rfl⟩:=abf.form;refine aY dB 4 (vs:=[_,_,_,_,_]) _ H wn rfl rfl rfl rfl rfl rfl rfl rfl ?_;clear H;intro w H;dsimp only [List.set,setRow] at H;refine aC ?_;refine anA ((.slice aff n160 c160,zu ps key now,_,Dh,Xi,Ry)) _ _ _ _ _ (by exact H.dX (Pl:=[_,_,_,_,_]) (dN:=[_,_,_]) [1,2,4] (by decide) rfl) ?_;exact ⟨abf,hrw3,UC.mono anp,by rw [← hdc,qR hk,qV,← hkey,← hls,← hq1,← hq2],by have:=aeR ps key now;show (zu ps key now).length≤_;omega,by show Dh.length≤_;rw [hs3,hq1,iM];omega⟩
  · clear H;intro aut gh auz a w jW hI H;obtain ⟨pv,ps,vy,ly,xs,Ly⟩:=gh;dsimp only at hI H;dsimp only [lca,bK] at H;obtain ⟨hpv,hrw,dQ,hdc,hpl,hll⟩:=hI;rw [bO,List.drop_length,qV] at hdc;obtain ⟨pvA,pvn,pvc,rfl⟩:=hpv.form;obtain ⟨vyA,vyc,rfl,-,-⟩:=hrw.shape
    have OX:kM acc rej h=⟨ps,⟨io,mo,h.marks.bH.filter fun x=>!rej x.rev,ly⟩⟩:=by unfold kM;rw [← hall,← hdc,hio,hmo]
    refine oH ?_;refine TH ?_;refine aR dB (cs:=[_,_,_,_,_]) H wn rfl rfl (H.hp.bT 2 rfl rfl) rfl ?_;clear H;intro a H;refine aY dB 1 (vs:=[_,_,_,_,_]) _ H wn rfl rfl rfl rfl rfl rfl rfl rfl ?_;clear H;intro w H;dsimp only [List.set,setRow] at H;refine bJ 2 H ?_;clear H;intro a H;refine cK ?_;refine (VD H 0 rfl ?_).1;clear H;intro a w H;dsimp only [List.eraseIdx_cons_succ,List.eraseIdx_cons_zero] at H;refine (fE H results96 (.cons (nH dB (cs:=[_,_,_,_,_]) H rfl rfl (H.hp.bT 0 rfl rfl)) (.cons (bq H rfl) .nil)) ?_).1
    first
      | exact H.rt (by rw [oI,ak (by first|exact .inl ⟨by assumption,by assumption⟩|exact .inr (IL.1 (by assumption)))];exact ⟨_,_,_,rfl,QU _⟩)
      | (obtain ⟨Q9,Ac,rZ,H⟩:=St.nO (Li:=[_,_]) H hrw (rows:=ly.map cB.dat) (by simp) dQ
         exact H.rt (by rw [oI,ah uV,OX];exact ⟨_,_,_,rfl,⟨hpv.mono Ac,(hdr.mono jW).mono Ac,rZ⟩⟩))
  intro Dk x;exact x.elim
section
def wH (x:Nat→aj × OL) (m:Nat) (y:aj × OL):Nat→aj × OL:=fun j=>if j=m then y else x j
theorem atG (x:Nat→aj × OL) (m:Nat) (y:aj × OL):wH x m y m=y:=ak rfl
theorem aeA {x:Nat→aj × OL} {m j:Nat} {y:aj × OL} (h:j≠m):wH x m y j=x j:=ah h
def pX (ms:List Nat) (S:Nat→Bool) (x:Nat→aj × OL):OL:=ms.flatMap fun m=>bif S m then (x m).2 else []
theorem Z6 {S:Nat→Bool} {x:Nat→aj × OL} {y:aj × OL} {m:Nat}:∀ {ms:List Nat},m∉ms→pX ms (bY S m) (wH x m y)=pX ms S x
 | [],_=>rfl
 | k :: ms,h=>by
  have hk:k≠m:=fun e=>h (by simp [e])
  have ih:=Z6 (S:=S) (x:=x) (y:=y) (ms:=ms) fun hm=>h (fJ _ hm)
  unfold pX at ih ⊢
  rw [List.flatMap_cons,List.flatMap_cons,ih,aeA hk,show bY S m k=S k from ah hk]
theorem Z7 {S:Nat→Bool} {x:Nat→aj × OL} {y:aj × OL} {m:Nat} (hS:S m=false):∀ {ms:List Nat},ms.Nodup→m∈ms→(y.2++pX ms S x).Perm (pX ms (bY S m) (wH x m y))
 | k :: ms,hn,hm=>by
  rw [List.nodup_cons] at hn
  by_cases hk:k=m
  ·subst hk
   have e:=Z6 (S:=S) (x:=x) (y:=y) hn.1
   unfold pX at e ⊢
   rw [List.flatMap_cons,List.flatMap_cons,e,atG,hS,show bY S k k=true from ak rfl]
   exact List.Perm.refl _
  ·have ih:=Z7 (S:=S) (x:=x) (y:=y) hS hn.2 (by
    rcases iX.1 hm with e|h
    ·exact absurd e.symm hk
    ·exact h)
   unfold pX at ih ⊢
   rw [List.flatMap_cons,List.flatMap_cons,aeA hk,show bY S m k=S k from ah hk,← jm]
   refine (List.Perm.append_right _ vG).trans ?_
   rw [jm]
   exact List.Perm.append_left _ ih
section
variable {N:Nat} {D:List Deferred} {w0:World} {F:Nat→Prop} {G0 G G1 G2:GH} {L L1 L2:OL} {T Xs:List (Nat × aj)}
variable {r:Option Nat} {P:Program} {Q:Exit→Act→World→Prop} {l:List Oper} {a a':Act} {w w':World}
theorem NP {id:Nat} (ms:List Nat) (hm:P.follows .mixedOrders=true) (bD:List (List Nat)) (B:List Nat) (hk:wP l bD=true) (hB:vo l bD B=true) (hnd:ms.Nodup) (hms:(ms.all fun m=>Nat.blt m l.length && !B.contains m)=true) (pr:(Nat→aj × OL)→Nat→aj→GH→Prop)
  (hp:∀ m,ms.contains m=true→∀ x y i v G,Nat.beq i m=false→(bD.getD i []).contains m=false→pr x i v G→pr (wH x m y) i v G)
  (H:St N D w0 F G0 G L T a w)
  (hstep:allI (fun i o=>∀ x L' S a w G1,(∀ q,q∈L→q∈L')→B.contains i=false→ms.contains i=false→S i=false→(∀ j∈bD.getD i [],S j=true)→(∀ k o,G k=some o→G1 k=some o)→St N D w0 F G0 G1 L' T a w→(∀ i d,S i=true→dS l i=some d→∃ v,a.tmps[d]?=some v∧pr x i v G1) →
   WL r P l.toArray (fun e a' w'=>e=.normal∧DX N D w0 F G0 G L' T l (pr x) (bY S i) a' w') [o] a w) 0 l)
  (hmid:allI (fun m o=>ms.contains m=true→∀ x L' S a w G1,(∀ q,q∈L→q∈L')→S m=false→(∀ j∈bD.getD m [],S j=true)→(∀ k o,G k=some o→G1 k=some o)→St N D w0 F G0 G1 L' T a w→(∀ y i d,i≠m→S i=true→dS l i=some d→∃ v,a.tmps[d]?=some v∧pr (wH x m y) i v G1) →
   WL r P l.toArray (fun e a' w'=>e=.normal∧∃ y,DX N D w0 F G0 G (y.2++L') T l (pr (wH x m y)) (bY S m) a' w') [o] a w) 0 l)
  (hend:∀ x a w G1,(∀ k o,G k=some o→G1 k=some o)→St N D w0 F G0 G1 (pX ms (fun _=>true) x++L) T a w→(∀ i d,B.contains i=false→dS l i=some d→∃ v,a.tmps[d]?=some v∧pr x i v G1)→WL r P l.toArray (fun e a w=>e=.normal∧Q .normal a w) (oV l B) a w):WP r P (.region id l.toArray true) Q a w:=by
 refine Ea hm bD B hk hB (fun S a w=>∃ x,DX N D w0 F G0 G (pX ms S x++L) T l (pr x) S a w)
  ⟨fun _=>(.bool false,[]),DX.perm (L1:=L) ⟨G,fun _ _ h=>h,H.move H.hp.drew,fun _ _ h=>absurd (show false=true from h) (by decide)⟩ (by
   have:∀ ms:List Nat,pX ms (fun _=>false) (fun _=>(.bool false,[]))=[]:=fun ms=>by
    induction ms with
    | nil=>rfl
    | cons k ms ih=>unfold pX at ih ⊢;rw [List.flatMap_cons,ih];rfl
   rw [this];exact List.Perm.refl _)⟩ ?_ ?_
 ·rintro i o S a w ho hb aK iK hdesc ⟨x,G1,hG,HS,hv⟩
  have hsub:∀ q,q∈L→q∈pX ms S x++L:=fun q hq=>List.mem_append_right _ hq
  have hno:∀ j,j < l.length→S j=true→(bD.getD j []).contains i=false:=fun j hjl hj=>by
   cases hc:(bD.getD j []).contains i with
   | false=>rfl
   | true =>
    have:=hdesc j hjl (by simpa using hc)
    rw [this] at hj;cases hj
  cases hi:ms.contains i with
  | true =>
   have h:=yP hmid i o ho
   rw [gD] at h
   have h:=h hi x _ S a w G1 hsub aK iK hG HS fun y j d hj hSj hd=>by
    obtain ⟨v,hv1,hv2⟩:=hv j d hSj hd
    exact ⟨v,hv1,hp i hi x y j v _ (nM hj) (hno j (pW hd) hSj) hv2⟩
   refine lu (fun e a' w' ⟨he,y,hD⟩=>⟨he,wH x i y,hD.perm ?_⟩) h
   rw [← jm]
   exact List.Perm.append_right L (Z7 aK hnd (by simpa using hi))
  | false =>
   have h:=yP hstep i o ho
   rw [gD] at h
   have e:∀ ms:List Nat,i∉ms→pX ms (bY S i) x=pX ms S x:=fun ms hn=>by
    induction ms with
    | nil=>rfl
    | cons k ms ih =>
     have ih:=ih fun h=>hn (fJ _ h)
     unfold pX at ih ⊢
     rw [List.flatMap_cons,List.flatMap_cons,ih,show bY S i k=S k from ah fun e=>hn (by simp [e])]
   refine lu (fun e' a' w' ⟨he,hD⟩=>⟨he,x,?_⟩) (h x _ S a w G1 hsub hb hi aK iK hG HS hv)
   rw [e ms (by simpa using hi)]
   exact hD
 ·rintro S a w hall Gg ⟨x,G1,hG,HS,hv⟩
  have hS:∀ m∈ms,S m=true:=fun m hmm=>by
   have h:=kE.1 hms m hmm
   rw [nK] at h
   exact hall m (Eq.mp Nat.blt_eq h.1) (by simpa using h.2)
  have e:∀ ms:List Nat,(∀ m∈ms,S m=true)→pX ms S x=pX ms (fun _=>true) x:=fun ms h=>by
   induction ms with
   | nil=>rfl
   | cons k ms ih =>
    have ih:=ih fun m hm=>h m (fJ _ hm)
    unfold pX at ih ⊢
    rw [List.flatMap_cons,List.flatMap_cons,ih,h k eX]
  replace e:=e ms hS
  rw [e] at HS
  exact hend x a w G1 hG HS fun j d hb hd=>hv j d (hall j (pW hd) hb) hd
end
end
section
theorem Td:∀ args w,(callFunc 98 args).run prog w=.ok (.enter 98 args) w:=enters func98 rfl (by kernel_rfl)
theorem aix:∀ args w,(callFunc 165 args).run prog w=.ok (.enter 165 args) w:=enters func165 rfl (by kernel_rfl)
def DW (fv:aj) (G:GH) (acc rej:Int→Bool):Prop:=∀ (G1:GH) (w1:World),(∀ b o,G b=some o→G1 b=some o)→Hold G1 w1→∀ (h:dP) (p d l:aj),iA G1 h p d l→mh h≤1073741824→rO prog fv [rz h p d l] w1 (bB w1 G1 (oI acc rej h))
theorem DW.mono {fv:aj} {G G':GH} {acc rej:Int→Bool} (hm:∀ b o,G b=some o→G' b=some o) (h:DW fv G acc rej):DW fv G' acc rej:=fun G1 w1 h1=>h G1 w1 fun b o hb=>h1 b o (hm b o hb)
variable {acc rej:Int→Bool}
def bG (acc rej:Int→Bool) (h:dP):dP:=if lM acc rej h then Ci else kM acc rej h
theorem oI.ans {h:dP} {u:aj} {G:GH} (hd:oI acc rej h u G):∃ pA pn pc dA dn dc lA ln lc,u=.tuple #[.agg #[.slice pA pn pc,vi (bG acc rej h).marks.ins,vi (bG acc rej h).marks.move,.slice dA dn dc,.slice lA ln lc],.bool (!decide (lM acc rej h))]∧iA G (bG acc rej h) (.slice pA pn pc) (.slice dA dn dc) (.slice lA ln lc):=by
 unfold oI at hd
 unfold bG
 by_cases hg:lM acc rej h
 ·rw [ak hg] at hd ⊢;obtain ⟨p,d,l,rfl,hh⟩:=hd;obtain ⟨pA,pn,pc,rfl⟩:=hh.props.form;obtain ⟨dA,dn,dc,rfl⟩:=hh.bH.form;obtain ⟨lA,ln,lc,rfl⟩:=hh.layers.form;exact ⟨pA,pn,pc,dA,dn,dc,lA,ln,lc,by simp [hg],hh⟩
 rw [ah hg] at hd ⊢;obtain ⟨p,d,l,rfl,hh⟩:=hd;obtain ⟨pA,pn,pc,rfl⟩:=hh.props.form;obtain ⟨dA,dn,dc,rfl⟩:=hh.bH.form;obtain ⟨lA,ln,lc,rfl⟩:=hh.layers.form;exact ⟨pA,pn,pc,dA,dn,dc,lA,ln,lc,by simp [hg],hh⟩
def Ny (fv:aj) (acc rej:Int→Bool) (n:Nat):Prop:=∀ (G:GH) (w0:World),Hold G w0→DW fv G acc rej→∀ (l:List ay) (v:aj),au G (.sl 11 (l.map ay.dat)) v→cu l < n →
 Calls prog 98 #[fv,v] w0 (bB w0 G fun u G'=>au G' (.sl 11 ((fC acc rej l).map ay.dat)) u)
theorem arw {fv:aj} {n:Nat} (ih:Ny fv acc rej n) (hn:n≤536870913) (G:GH) (w0:World) (hG:Hold G w0) (hf:DW fv G acc rej) (l:List aU) (v:aj) (hv:au G (.sl 6 (l.map aU.dat)) v) (hz:gX l < n) :
  Calls prog 165 #[fv,v] w0 (bB w0 G fun u G'=>au G' (.sl 6 ((iL acc rej l).map aU.dat)) u):=by
 obtain ⟨A,c,rfl,hc1,hc2,hg⟩:=hv.slice
 have hml:4294967297≤maxLen:=by decide
 have hll:=JY l;rw [bO] at *;refine eN [(0,_),(1,_)] func165 rfl ntmps165 rfl rfl hG ?_;refine av 13 ?_;intro a H;refine eH (ι:=Nat × aj × List aj × OL × GH) (Tc:=[(0,_),(15,_),(16,_)]) (Lc:=[]) (fun gh=>[(5,gh.2.1),(17,vi gh.1)]) (fun gh=>[]++gh.2.2.2.1) (fun gh=>gh.2.2.2.2) (fun gh=>gh.1≤l.length∧bX 74 6 gh.2.1 (iL acc rej (l.take gh.1)).length gh.2.2.1 gh.2.2.2.1∧bV gh.2.2.2.2 6 ((iL acc rej (l.take gh.1)).map aU.dat) gh.2.2.1∧(∀ b o,G b=some o→gh.2.2.2.2 b=some o)) (fun gh=>l.length - gh.1) ((0,.slice none 0 0,[],[],G)) sB ?_ ?_
 ·exact ⟨by omega,bX.nil,bV.nil,fun _ _ h=>h⟩
 clear H;rintro ⟨k,v,xs,Lo,g⟩ a w hI H;dsimp only at hI H;obtain ⟨hk,hrw,dQ,hgm⟩:=hI;have hrl:=Qm (acc:=acc) (rej:=rej) (l.take k);rw [List.length_take] at hrl;dsimp only [lca,bK] at H;refine iI 4 H ?_ ?_ <;> clear H
 ·intro sF
  have hk2:k < l.length:=by omega
  obtain ⟨b_,o_,pA,pn,pc,dA,dn,dc,yA,yn,yc,cA,cn,cc,rfl,hrow,hhd,hcl⟩:=Mx hk2 hg;replace hrow:=fun j u hj=>aG hgm (hrow j u hj);replace hhd:=hhd.mono hgm;replace hcl:=hcl.mono hgm;have hzr:=Na hk2;have hce:=Wt (acc:=acc) (rej:=rej) l[k];refine av 5 ?_;intro a H;refine aR jA (cs:=[_,_,_,_,_,_]) H wn rfl rfl (fun j v hj=>H.hp.aH (hrow j v hj)) rfl ?_;clear H;intro a H;refine dJ jA H wn rfl ?_;clear H;intro b7 a w wT H;refine aY jA 0 (vs:=[_,_,_,_,_,_]) _ H wn rfl rfl rfl rfl rfl rfl rfl rfl ?_;clear H;intro w H;dsimp only [List.set,setRow] at H;refine bJ 4 H ?_;clear H;intro a H;refine aR dB (cs:=[_,_,_,_,_]) H wn rfl rfl (H.hp.bT 0 rfl rfl) rfl ?_;clear H;intro a H;refine jF H wn rfl rfl (hf _ _ hgm H.ro l[k].head _ _ _ hhd (by omega)) rfl ?_;clear H;rintro v25 J3 a w hd25 zY H;obtain ⟨q1,q2,q3,q4,q5,q6,q7,q8,q9,rfl,anh⟩:=hd25.ans;refine bJ 1 H ?_;clear H;intro a H;(iterate 2 refine lQ H wn rfl rfl rfl ?_;clear H;intro a H);refine dJ dB H wn rfl ?_;clear H;intro b8 a w BA H;refine aY dB 0 (vs:=[_,_,_,_,_]) _ H wn rfl rfl rfl rfl rfl rfl rfl rfl ?_;clear H;intro w H;dsimp only [List.set,setRow] at H;refine lW 7 H ?_ ?_ <;> clear H
  ·intro qg
   try have p29:=dT qg
   have hone:pK acc rej l[k]=[]:=by rw [hce,ak (by simpa using qg)]
   have mG:=zY;refine av 4 ?_;intro a H;refine aC ?_;refine dx ((k+1,v,xs,Lo,_)) (by exact (H.dX (Pl:=[_,_]) (dN:=[]) [] (by decide) rfl).sub ⟨rfl,rfl,rfl,rfl,rfl,aL⟩) ?_
   (try dsimp only);exact ⟨by omega,by rw [zi hk2,hone,fZ];exact hrw,by rw [zi hk2,hone,fZ];exact dQ.mono mG,fun b o h=>mG b o (hgm b o h)⟩
  intro qg
  try have p29:=dF qg
  have uV:¬ lM acc rej l[k].head:=by simpa using qg
  rw [ah uV] at hce;obtain ⟨cA',cc',hcs,UF,amL,hgc⟩:=hcl.slice
  intro a H;injection hcs with e1 e2 e3
  rw [bO] at e2 UF;subst e1 e2 e3;have amO:=JW l[k].cells;refine mE 12 H ?_;clear H;intro a H;refine eH (ι:=Nat × aj × List aj × OL × GH) (Tc:=[(0,_),(5,_),(8,_),(15,_),(16,_),(17,_),(31,_),(32,_)]) (Lc:=[(_,_),(_,_)]) (fun gh=>[(10,gh.2.1),(33,vi gh.1)]) (fun gh=>[]++(Lo++gh.2.2.2.1)) (fun gh=>gh.2.2.2.2) (fun gh=>gh.1≤l[k].cells.length∧bX 76 7 gh.2.1 (gJ acc rej (l[k].cells.take gh.1)).length gh.2.2.1 gh.2.2.2.1∧bV gh.2.2.2.2 7 ((gJ acc rej (l[k].cells.take gh.1)).map aZ.dat) gh.2.2.1∧(∀ b o,J3 b=some o→gh.2.2.2.2 b=some o)) (fun gh=>l[k].cells.length - gh.1) ((0,.slice none 0 0,[],[],J3)) (by exact (H.Jy (A:=[_,_])).sub ⟨rfl,rfl,rfl,rfl,rfl,rfl,rfl,rfl,rfl,rfl,aL⟩) ?_ ?_
  ·exact ⟨by omega,bX.nil,bV.nil,fun _ _ h=>h⟩
  clear H;rintro ⟨i,v2,xs2,Lc,g2⟩ a w hI H;dsimp only at hI H;obtain ⟨hi,hrw2,ug,jg⟩:=hI;have hrl2:=Ql (acc:=acc) (rej:=rej) (l[k].cells.take i);rw [List.length_take] at hrl2;obtain ⟨Az,AA,rfl,-,-⟩:=hrw2.shape;dsimp only [lca,bK] at H;refine iI 4 H ?_ ?_ <;> clear H
  ·intro p34
   have hi2:i < l[k].cells.length:=by omega
   obtain ⟨b2_,o2_,aA,an,ac,gA,gn,gc,uA,un,uc,wA,M5,wc,rfl,hrow2,F3,FY⟩:=Kt hi2 hgc;have hgx:∀ b o,g b=some o→g2 b=some o:=fun b o h=>jg b o (zY b o h);replace hrow2:=fun j u hj=>aG hgx (hrow2 j u hj);replace F3:=F3.mono hgx;replace FY:=FY.mono hgx;have hzc:=M9 hi2;have Lj:=Wp (acc:=acc) (rej:=rej) l[k].cells[i];refine av 5 ?_;intro a H;refine aR jL (cs:=[_,_,_,_,_,_,_]) H wn rfl rfl (fun j v hj=>H.hp.aH (hrow2 j v hj)) rfl ?_;clear H;intro a H;refine dJ jL H wn rfl ?_;clear H;intro b12 a w FR H;refine aY jL 0 (vs:=[_,_,_,_,_,_,_]) _ H wn rfl rfl rfl rfl rfl rfl rfl rfl ?_;clear H;intro w H;dsimp only [List.set,setRow] at H;refine bJ 4 H ?_;clear H;intro a H;refine aR dB (cs:=[_,_,_,_,_]) H wn rfl rfl (H.hp.bT 0 rfl rfl) rfl ?_;clear H;intro a H;refine jF H wn rfl rfl (hf _ _ (fun b o h=>hgx b o (hgm b o h)) H.ro l[k].cells[i].head _ _ _ F3 (by omega)) rfl ?_;clear H;rintro v41 HY a w amR vX H;obtain ⟨r1,r2,r3,r4,r5,r6,r7,r8,r9,rfl,ani⟩:=amR.ans;refine bJ 1 H ?_;clear H;intro a H;(iterate 2 refine lQ H wn rfl rfl rfl ?_;clear H;intro a H);refine dJ dB H wn rfl ?_;clear H;intro b13 a w OO H;refine aY dB 0 (vs:=[_,_,_,_,_]) _ H wn rfl rfl rfl rfl rfl rfl rfl rfl ?_;clear H;intro w H;dsimp only [List.set,setRow] at H;refine lW 5 H ?_ ?_ <;> clear H
   ·intro CG
    try have p44:=dT CG
    have LK:¬ lM acc rej l[k].cells[i].head:=by simpa using CG
    have Ad:qO acc rej l[k].cells[i]=[.mk l[k].cells[i].id (bG acc rej l[k].cells[i].head) (fC acc rej l[k].cells[i].flow)]:=by rw [Lj,ah LK,bG,ah LK]
    have BK:Nt (fun (aJ:Nat→aj × OL) (bQ:Nat) (v:aj) (G:GH)=>match bQ with|0=>v=.slice Az (gJ acc rej (l[k].cells.take i)).length AA|1=>v=(aM b12 0)|2=>v=vi l[k].cells[i].id|3=>v=.agg #[.slice r1 r2 r3,vi (bG acc rej l[k].cells[i].head).marks.ins,vi (bG acc rej l[k].cells[i].head).marks.move,.slice r4 r5 r6,.slice r7 r8 r9]|4=>v=fv|5=>v=(aM b12 6)|6=>v=.slice wA M5 wc|7=>au G (.sl 11 ((fC acc rej l[k].cells[i].flow).map ay.dat)) v|8=>∃ A n c,v=.agg #[vi l[k].cells[i].id,.slice r1 r2 r3,vi (bG acc rej l[k].cells[i].head).marks.ins,vi (bG acc rej l[k].cells[i].head).marks.move,.slice r4 r5 r6,.slice r7 r8 r9,.slice A n c]∧au G (.sl 11 ((fC acc rej l[k].cells[i].flow).map ay.dat)) (.slice A n c)|9=>∃ b A n c,v=.slice (some ⟨b,0,none⟩) 1 1∧aJ 9=(.slice (some ⟨b,0,none⟩) 1 1,[(b,.cells #[vi l[k].cells[i].id,.slice r1 r2 r3,vi (bG acc rej l[k].cells[i].head).marks.ins,vi (bG acc rej l[k].cells[i].head).marks.move,.slice r4 r5 r6,.slice r7 r8 r9,.slice A n c] 76 (0,0))])∧au G (.sl 11 ((fC acc rej l[k].cells[i].flow).map ay.dat)) (.slice A n c)|_=>True):=by intro aJ bQ v G G' hm h;(iterate 12 (rcases bQ with _|bQ;(first|exact h|exact au.mono hm h|exact let ⟨A,n,c,h1,h2⟩:=h;⟨A,n,c,h1,h2.mono hm⟩|exact let ⟨b,A,n,c,h0,h1,h2⟩:=h;⟨b,A,n,c,h0,h1,h2.mono hm⟩)));exact trivial
    intro a H;refine NP [9] (hmx) [[],[],[1],[],[],[],[5],[4,5,6],(ra 1 7),(ra 1 8),(ra 0 10),(ra 0 11)] [10,11] (by kernel_rfl) (by kernel_rfl) (by decide) (by kernel_rfl) (fun (aJ:Nat→aj × OL) (bQ:Nat) (v:aj) (G:GH)=>match bQ with|0=>v=.slice Az (gJ acc rej (l[k].cells.take i)).length AA|1=>v=(aM b12 0)|2=>v=vi l[k].cells[i].id|3=>v=.agg #[.slice r1 r2 r3,vi (bG acc rej l[k].cells[i].head).marks.ins,vi (bG acc rej l[k].cells[i].head).marks.move,.slice r4 r5 r6,.slice r7 r8 r9]|4=>v=fv|5=>v=(aM b12 6)|6=>v=.slice wA M5 wc|7=>au G (.sl 11 ((fC acc rej l[k].cells[i].flow).map ay.dat)) v|8=>∃ A n c,v=.agg #[vi l[k].cells[i].id,.slice r1 r2 r3,vi (bG acc rej l[k].cells[i].head).marks.ins,vi (bG acc rej l[k].cells[i].head).marks.move,.slice r4 r5 r6,.slice r7 r8 r9,.slice A n c]∧au G (.sl 11 ((fC acc rej l[k].cells[i].flow).map ay.dat)) (.slice A n c)|9=>∃ b A n c,v=.slice (some ⟨b,0,none⟩) 1 1∧aJ 9=(.slice (some ⟨b,0,none⟩) 1 1,[(b,.cells #[vi l[k].cells[i].id,.slice r1 r2 r3,vi (bG acc rej l[k].cells[i].head).marks.ins,vi (bG acc rej l[k].cells[i].head).marks.move,.slice r4 r5 r6,.slice r7 r8 r9,.slice A n c] 76 (0,0))])∧au G (.sl 11 ((fC acc rej l[k].cells[i].flow).map ay.dat)) (.slice A n c)|_=>True) (fun m hm x y i v G hi hc h=>by
     have hm:m=9:=by simpa using hm
     rcases hm with rfl
     ·(iterate 12 (rcases i with _|i;(first|exact h|exact absurd hi (by decide)|exact absurd hc (by decide))));exact trivial
     ) H ?_ ?_ ?_
    ·clear H;refine aD ?_ ?_ ?_ ?_ (aD ?_ ?_ ?_ ?_ (aD ?_ ?_ ?_ ?_ cO))
     ·intro aJ dD aP a w G1 dH _ _ aK hc hG HT hv;have H:=HT;clear aK;have Hb:=H.full;have H:=Hb;clear hc;refine bJ 1 H ?_;clear H;intro a H;refine aC ⟨rfl,?_⟩;exact dw (by kernel_rfl) (BK aJ) rfl rfl HT Hb hG hv (fun _ _ h=>h) (rfl) H
     ·intro aJ dD aP a w G1 dH _ _ aK hc hG HT hv;have H:=HT;clear aK;have Hb:=H.full;have H:=Hb;clear hc;refine bJ 1 H ?_;clear H;intro a H;refine aC ⟨rfl,?_⟩;exact dw (by kernel_rfl) (BK aJ) rfl rfl HT Hb hG hv (fun _ _ h=>h) (rfl) H
     ·intro aJ dD aP a w G1 dH _ _ aK hc hG HT hv;have H:=HT;clear aK;have H:=H.aN (hv 1 46 (hc 1 (by decide)) rfl) rfl;have Hb:=H.full;have H:=Hb;clear hc;refine kL aT H wn rfl (H.hp.xY (dH _ (fJ _ eX)) rfl) rfl ?_;clear H;intro a H;refine aC ⟨rfl,?_⟩;exact dw (by kernel_rfl) (BK aJ) rfl rfl HT Hb hG hv (fun _ _ h=>h) (rfl) H
     ·intro aJ dD aP a w G1 dH _ _ aK hc hG HT hv;have H:=HT;clear aK;have Hb:=H.full;have H:=Hb;clear hc;refine aR dB (cs:=[.slice r1 r2 r3,vi (bG acc rej l[k].cells[i].head).marks.ins,vi (bG acc rej l[k].cells[i].head).marks.move,.slice r4 r5 r6,.slice r7 r8 r9]) H wn rfl rfl (fun j v hj=>H.hp.xY (dH _ eX) (by simpa using hj)) rfl ?_;clear H;intro a H;refine aC ⟨rfl,?_⟩;exact dw (by kernel_rfl) (BK aJ) rfl rfl HT Hb hG hv (fun _ _ h=>h) (rfl) H
     ·intro aJ dD aP a w G1 dH _ _ aK hc hG HT hv;have H:=HT;clear aK;have Hb:=H.full;have H:=Hb;clear hc;refine bJ 1 H ?_;clear H;intro a H;refine aC ⟨rfl,?_⟩;exact dw (by kernel_rfl) (BK aJ) rfl rfl HT Hb hG hv (fun _ _ h=>h) (rfl) H
     ·intro aJ dD aP a w G1 dH _ _ aK hc hG HT hv;have H:=HT;clear aK;have Hb:=H.full;have H:=Hb;clear hc;refine bJ 1 H ?_;clear H;intro a H;refine aC ⟨rfl,?_⟩;exact dw (by kernel_rfl) (BK aJ) rfl rfl HT Hb hG hv (fun _ _ h=>h) (rfl) H
     ·intro aJ dD aP a w G1 dH _ _ aK hc hG HT hv;have H:=HT;clear aK;have H:=H.aN (hv 5 50 (hc 5 (by decide)) rfl) rfl;have Hb:=H.full;have H:=Hb;clear hc;refine kL lS H wn rfl (H.hp.xY (dH _ (fJ _ eX)) rfl) rfl ?_;clear H;intro a H;refine aC ⟨rfl,?_⟩;exact dw (by kernel_rfl) (BK aJ) rfl rfl HT Hb hG hv (fun _ _ h=>h) (rfl) H
     ·intro aJ dD aP a w G1 dH _ _ aK hc hG HT hv;have H:=HT;clear aK;have H:=H.aN (hv 4 49 (hc 4 (by decide)) rfl) rfl;have H:=H.aN (hv 6 51 (hc 6 (by decide)) rfl) rfl;have Hb:=H.full;have H:=Hb;clear hc;refine s_call Td H wn rfl (ih _ _ H.ro (hf.mono fun b o h=>hG b o (vX b o (hgx b o (hgm b o h)))) l[k].cells[i].flow _ (FY.mono fun b o h=>hG b o (vX b o h)) (by omega)) rfl ?_;clear H;rintro v52 XF a w C9 alN H;refine aC ⟨rfl,?_⟩;exact dw (by kernel_rfl) (BK aJ) rfl rfl HT Hb hG hv alN (C9) H
     ·intro aJ dD aP a w G1 dH _ _ aK hc hG HT hv;have H:=HT;clear aK;have H:=H.aN (hv 2 47 (hc 2 (by decide)) rfl) rfl;have H:=H.aN (hv 3 48 (hc 3 (by decide)) rfl) rfl;obtain ⟨u52,aov,C9⟩:=hv 7 52 (hc 7 (by decide)) rfl;(try dsimp only at C9);obtain ⟨zB,n52,zI,rfl⟩:=C9.form;have H:=H.gI aov;have Hb:=H.full;have H:=Hb;clear hc;refine jl QA [_,_,_,_,_,_,_] H wn rfl rfl rfl rfl ?_;clear H;intro a H;refine aC ⟨rfl,?_⟩;exact dw (by kernel_rfl) (BK aJ) rfl rfl HT Hb hG hv (fun _ _ h=>h) (⟨_,_,_,rfl,C9⟩) H
     ·intro _ _ _ _ _ _ _ _ hB;exact absurd hB (by decide)
     ·intro _ _ _ _ _ _ _ hB;exact absurd hB (by decide)
     intro _ _ _ _ _ _ _ hB;exact absurd hB (by decide)
    ·clear H;refine aD ?_ ?_ ?_ ?_ (aD ?_ ?_ ?_ ?_ (aD ?_ ?_ ?_ ?_ cO))
     ·intro hB;exact absurd hB (by decide)
     ·intro hB;exact absurd hB (by decide)
     ·intro hB;exact absurd hB (by decide)
     ·intro hB;exact absurd hB (by decide)
     ·intro hB;exact absurd hB (by decide)
     ·intro hB;exact absurd hB (by decide)
     ·intro hB;exact absurd hB (by decide)
     ·intro hB;exact absurd hB (by decide)
     ·intro hB;exact absurd hB (by decide)
     ·intro _ aJ dD aP a w G1 dH _ hc hG HT hv;have H:=HT;obtain ⟨u53,Vg,BJ⟩:=hv (.bool false,[]) 8 53 (by decide) (hc 8 (by decide)) rfl;(try dsimp only at BJ);obtain ⟨uG,n53,c53,rfl,BJ⟩:=BJ;have H:=H.gI Vg;have Hb:=H.full;have H:=Hb;clear hc;refine gQ vB jL [_,_,_,_,_,_,_] [_,_,_,_,_,_,_] H wn rfl rfl rfl rfl rfl (by intro i q h;match i,h with|0,h=>exact h|n+1,h=>simp at h) rfl rfl ?_;clear H;intro Bj a w aaB H;refine aC ⟨rfl,(.slice (some ⟨Bj,0,none⟩) 1 1,[(Bj,.cells #[vi l[k].cells[i].id,.slice r1 r2 r3,vi (bG acc rej l[k].cells[i].head).marks.ins,vi (bG acc rej l[k].cells[i].head).marks.move,.slice r4 r5 r6,.slice r7 r8 r9,.slice uG n53 c53] 76 (0,0))]),?_⟩;exact Cx (by kernel_rfl) (BK (wH aJ 9 (.slice (some ⟨Bj,0,none⟩) 1 1,[(Bj,.cells #[vi l[k].cells[i].id,.slice r1 r2 r3,vi (bG acc rej l[k].cells[i].head).marks.ins,vi (bG acc rej l[k].cells[i].head).marks.move,.slice r4 r5 r6,.slice r7 r8 r9,.slice uG n53 c53] 76 (0,0))]))) rfl HT Hb hG (fun j e h1 h2 h3=>hv (.slice (some ⟨Bj,0,none⟩) 1 1,[(Bj,.cells #[vi l[k].cells[i].id,.slice r1 r2 r3,vi (bG acc rej l[k].cells[i].head).marks.ins,vi (bG acc rej l[k].cells[i].head).marks.move,.slice r4 r5 r6,.slice r7 r8 r9,.slice uG n53 c53] 76 (0,0))]) j e h1 h2 h3) (fun _ _ h=>h) (⟨Bj,uG,n53,c53,rfl,rfl,BJ⟩) H
     ·intro hB;exact absurd hB (by decide)
     intro hB;exact absurd hB (by decide)
    clear H;intro aJ a w G KT H hv
    simp only [pX,List.flatMap_cons,List.flatMap_nil,cond_true,fZ,jm] at H
    have H:=H.aN (hv 0 45 rfl rfl) rfl;obtain ⟨u54,aow,abo⟩:=hv 9 54 (by decide) rfl;(try dsimp only at abo);obtain ⟨Bj,zB,n52,zI,rfl,e54,C9⟩:=abo;have H:=H.gI aow;clear hv;rw [e54] at H;dsimp only [lca,bK] at H;have abv:aV G (aZ.dat (.mk l[k].cells[i].id (bG acc rej l[k].cells[i].head) (fC acc rej l[k].cells[i].flow))) [vi l[k].cells[i].id,.slice r1 r2 r3,vi (bG acc rej l[k].cells[i].head).marks.ins,vi (bG acc rej l[k].cells[i].head).marks.move,.slice r4 r5 r6,.slice r7 r8 r9,.slice zB n52 zI]:=aV.Ml (x:=.mk l[k].cells[i].id (bG acc rej l[k].cells[i].head) (fC acc rej l[k].cells[i].flow)) (ani.mono KT) C9;refine mI (Li:=[_,_,_,_,_]++Lo) (Lo:=Lc) (news:=[vi l[k].cells[i].id,.slice r1 r2 r3,vi (bG acc rej l[k].cells[i].head).marks.ins,vi (bG acc rej l[k].cells[i].head).marks.move,.slice r4 r5 r6,.slice r7 r8 r9,.slice zB n52 zI]) vB jL rfl rfl (St.un (A:=[_,_,_,_,_]) H) wn rfl rfl hrw2 rfl (H.hp.bT 0 rfl rfl) abv.one (by omega) (by omega) rfl ?_;clear H;intro v55 afj a w anX H;have H:=H.assoc;dsimp only [lca,bK] at H;refine kH H (Ra rfl ?_);clear H;intro a H;refine aC ⟨rfl,?_⟩;refine oH ?_;refine mE 3 H ?_;clear H;intro a H;refine aC ?_;refine dx ((i+1,v55,xs2++[vi l[k].cells[i].id,.slice r1 r2 r3,vi (bG acc rej l[k].cells[i].head).marks.ins,vi (bG acc rej l[k].cells[i].head).marks.move,.slice r4 r5 r6,.slice r7 r8 r9,.slice zB n52 zI],afj,_)) (by exact (H.dX (Pl:=[_,_,_,_,_]) (dN:=[_,_]) [3,4] (by decide) rfl).sub ⟨rfl,rfl,rfl,rfl,rfl,rfl,rfl,rfl,rfl,rfl,aL⟩) ?_
    (try dsimp only);exact ⟨by omega,by rw [EO hi2,Ad,iM];exact anX,by rw [EO hi2,Ad,kV];exact (ug.mono fun b o h=>KT b o (vX b o h)).snoc abv rfl,fun b o h=>KT b o (vX b o (jg b o h))⟩
   intro CG
   try have p44:=dF CG
   have Ad:qO acc rej l[k].cells[i]=[]:=by rw [Lj,ak (by simpa using CG)]
   refine av 4 ?_;intro a H;refine aC ?_;refine dx ((i+1,_,xs2,Lc,_)) (by exact (H.dX (Pl:=[_,_,_,_]) (dN:=[_,_]) [2,3] (by decide) rfl).sub ⟨rfl,rfl,rfl,rfl,rfl,rfl,rfl,rfl,rfl,rfl,aL⟩) ?_
   (try dsimp only);exact ⟨by omega,by rw [EO hi2,Ad,fZ];exact hrw2,by rw [EO hi2,Ad,fZ];exact ug.mono vX,fun b o h=>vX b o (jg b o h)⟩
  intro p34
  obtain rfl:i=l[k].cells.length:=by omega
  intro a H;rw [vJ] at hrw2 ug hrl2 H;have H:=H.un (A:=[_,_]);obtain ⟨Gr,hmr,hrep,H⟩:=St.nO (Li:=[_,_]++Lo) H hrw2 (rows:=(gJ acc rej l[k].cells).map aZ.dat) (by simp) ug;have mG:∀ b o,g b=some o→Gr b=some o:=fun b o h=>hmr b o (jg b o (zY b o h));dsimp only [lca,bK] at H;refine iI 6 H ?_ ?_ <;> clear H
  ·intro p59
   have hone:pK acc rej l[k]=[.mk (bG acc rej l[k].head) (gJ acc rej l[k].cells)]:=by rw [hce,ah (by omega),bG,ah uV]
   have abw:aV Gr (aU.dat (.mk (bG acc rej l[k].head) (gJ acc rej l[k].cells))) [.slice q1 q2 q3,vi (bG acc rej l[k].head).marks.ins,vi (bG acc rej l[k].head).marks.move,.slice q4 q5 q6,.slice q7 q8 q9,.slice Az (gJ acc rej l[k].cells).length AA]:=aV.Mq (x:=.mk (bG acc rej l[k].head) (gJ acc rej l[k].cells)) (anh.mono fun b o h=>hmr b o (jg b o h)) hrep;refine av 2 ?_;intro a H;refine aR dB (cs:=[_,_,_,_,_]) H wn rfl rfl (H.hp.bT 0 rfl rfl) rfl ?_;clear H;refine av 1 ?_;intro a H;refine jl Qz [_,_,_,_,_,_] H wn rfl rfl rfl rfl ?_;clear H;intro a H;refine gQ tq jA [_,_,_,_,_,_] [_,_,_,_,_,_] H wn rfl rfl rfl rfl rfl (by intro i q h;match i,h with|0,h=>exact h|n+1,h=>simp at h) rfl rfl ?_;clear H;intro b64 a w auY H;refine mI (Li:=[_,_,_]) (Lo:=Lo) (news:=[.slice q1 q2 q3,vi (bG acc rej l[k].head).marks.ins,vi (bG acc rej l[k].head).marks.move,.slice q4 q5 q6,.slice q7 q8 q9,.slice Az (gJ acc rej l[k].cells).length AA]) tq jA rfl rfl H wn rfl rfl hrw rfl (H.hp.bT 0 rfl rfl) abw.one (by omega) (by omega) rfl ?_;clear H;intro v65 afr a w anY H;refine bJ 5 H ?_;clear H;intro a H;refine aC ?_;refine dx ((k+1,v65,xs++[.slice q1 q2 q3,vi (bG acc rej l[k].head).marks.ins,vi (bG acc rej l[k].head).marks.move,.slice q4 q5 q6,.slice q7 q8 q9,.slice Az (gJ acc rej l[k].cells).length AA],afr,_)) (by exact (H.dX (Pl:=[_,_,_]) (dN:=[]) [] (by decide) rfl).sub ⟨rfl,rfl,rfl,rfl,rfl,aL⟩) ?_
   (try dsimp only);exact ⟨by omega,by rw [zi hk2,hone,iM];exact anY,by rw [zi hk2,hone,kV];exact (dQ.mono mG).snoc abw rfl,fun b o h=>mG b o (hgm b o h)⟩
  intro p59
  have hone:pK acc rej l[k]=[]:=by rw [hce,ak (by omega)]
  refine av 4 ?_;intro a H;refine aC ?_;refine dx ((k+1,v,xs,Lo,_)) (by exact (H.dX (Pl:=[_,_]) (dN:=[]) [] (by decide) rfl).sub ⟨rfl,rfl,rfl,rfl,rfl,aL⟩) ?_
  (try dsimp only);exact ⟨by omega,by rw [zi hk2,hone,fZ];exact hrw,by rw [zi hk2,hone,fZ];exact dQ.mono mG,fun b o h=>mG b o (hgm b o h)⟩
 intro sF
 obtain rfl:k=l.length:=by omega
 rw [vJ] at hrw dQ;refine av 5 ?_;intro a H;refine cK ?_;obtain ⟨G',hm,rZ,H⟩:=H.nO (Li:=[]) hrw (rows:=(iL acc rej l).map aU.dat) (by simp) dQ;refine lv H results165 rfl ?_;exact H.rt rZ
theorem aru {fv:aj} {n:Nat} (ih:Ny fv acc rej n) (hn:n≤536870912):Ny fv acc rej (n+1):=by
 intro G w0 hG hf l v hv hz;obtain ⟨A,c,rfl,hc1,hc2,hg⟩:=hv.slice
 have hml:4294967297≤maxLen:=by decide
 have hll:=Hu l;rw [bO] at *;refine eN [(0,_),(1,_)] func98 rfl ntmps98 rfl rfl hG ?_;refine av 13 ?_;intro a H;refine eH (ι:=Nat × aj × List aj × OL × GH) (Tc:=[(0,_),(10,_),(11,_)]) (Lc:=[]) (fun gh=>[(5,gh.2.1),(12,vi gh.1)]) (fun gh=>[]++gh.2.2.2.1) (fun gh=>gh.2.2.2.2) (fun gh=>gh.1≤l.length∧bX 68 11 gh.2.1 (fC acc rej (l.take gh.1)).length gh.2.2.1 gh.2.2.2.1∧bV gh.2.2.2.2 11 ((fC acc rej (l.take gh.1)).map ay.dat) gh.2.2.1∧(∀ b o,G b=some o→gh.2.2.2.2 b=some o)) (fun gh=>l.length - gh.1) ((0,.slice none 0 0,[],[],G)) sB ?_ ?_
 ·exact ⟨by omega,bX.nil,bV.nil,fun _ _ h=>h⟩
 clear H;rintro ⟨k,v,xs,Lo,g⟩ a w hI H;dsimp only at hI H;obtain ⟨hk,hrw,dQ,hgm⟩:=hI;have hrl:=Ws (acc:=acc) (rej:=rej) (l.take k);rw [List.length_take] at hrl;dsimp only [lca,bK] at H;refine iI 4 H ?_ ?_ <;> clear H
 ·intro qp
  have hk2:k < l.length:=by omega
  obtain ⟨b_,o_,pA,pn,pc,dA,dn,dc,yA,yn,yc,fA,fn,fc,rA,rn,rc,rfl,hrow,hhd,hfl,hrs⟩:=FJ hk2 hg;replace hrow:=fun j u hj=>aG hgm (hrow j u hj);replace hhd:=hhd.mono hgm;replace hfl:=hfl.mono hgm;replace hrs:=hrs.mono hgm;have hzi:=JX hk2;have hce:=Wq (acc:=acc) (rej:=rej) l[k];refine av 5 ?_;intro a H;refine aR gB (cs:=[_,_,_,_,_,_,_,_,_,_,_]) H wn rfl rfl (fun j v hj=>H.hp.aH (hrow j v hj)) rfl ?_;clear H;intro a H;refine dJ gB H wn rfl ?_;clear H;intro b7 a w wT H;refine aY gB 0 (vs:=[_,_,_,_,_,_,_,_,_,_,_]) _ H wn rfl rfl rfl rfl rfl rfl rfl rfl ?_;clear H;intro w H;dsimp only [List.set,setRow] at H;refine bJ 4 H ?_;clear H;intro a H;refine aR dB (cs:=[_,_,_,_,_]) H wn rfl rfl (H.hp.bT 0 rfl rfl) rfl ?_;clear H;intro a H;refine jF H wn rfl rfl (hf _ _ hgm H.ro l[k].head _ _ _ hhd (by omega)) rfl ?_;clear H;rintro v20 J2 a w amQ rX H;obtain ⟨q1,q2,q3,q4,q5,q6,q7,q8,q9,rfl,UO⟩:=amQ.ans;refine bJ 1 H ?_;clear H;intro a H;(iterate 2 refine lQ H wn rfl rfl rfl ?_;clear H;intro a H);refine dJ dB H wn rfl ?_;clear H;intro b8 a w BA H;refine aY dB 0 (vs:=[_,_,_,_,_]) _ H wn rfl rfl rfl rfl rfl rfl rfl rfl ?_;clear H;intro w H;dsimp only [List.set,setRow] at H;refine lW 7 H ?_ ?_ <;> clear H
  ·intro fq
   try have jT:=dT fq
   have hone:oZ acc rej l[k]=[]:=by rw [hce,ak (by simpa using fq)]
   refine av 4 ?_;intro a H;refine aC ?_;refine dx ((k+1,v,xs,Lo,_)) (by exact (H.dX (Pl:=[_,_]) (dN:=[]) [] (by decide) rfl).sub ⟨rfl,rfl,rfl,rfl,rfl,aL⟩) ?_
   (try dsimp only);exact ⟨by omega,by rw [xw hk2,hone,fZ];exact hrw,by rw [xw hk2,hone,fZ];exact dQ.mono rX,fun b o h=>rX b o (hgm b o h)⟩
  intro fq
  try have jT:=dF fq
  have uV:¬ lM acc rej l[k].head:=by simpa using fq
  rw [ah uV] at hce;have han:bG acc rej l[k].head=kM acc rej l[k].head:=ah uV;refine av 2 ?_;intro a H;refine aR dB (cs:=[_,_,_,_,_]) H wn rfl rfl (H.hp.bT 0 rfl rfl) rfl ?_;clear H;refine av 1 ?_;intro a H;refine aY dB 1 (vs:=[_,_,_,_,_]) _ H wn rfl rfl rfl rfl rfl rfl rfl rfl ?_;clear H;intro w H;dsimp only [List.set,setRow] at H;refine aC ?_;refine oH ?_;refine rR (ι:=ay × List aj × GH) (Tc:=[(0,_),(5,_),(7,_),(10,_),(11,_),(12,_)]) (Lc:=[(_,_)]) (fun gh=>[]) (fun gh=>[(b7,.cells gh.2.1.toArray 68 (0,0))]++Lo) (fun gh=>gh.2.2) (fun gh=>oZ acc rej l[k]=[gh.1]∧aV gh.2.2 gh.1.dat gh.2.1∧(∀ b o,J2 b=some o→gh.2.2 b=some o)) sB ?_ ?_
  ·refine iI 9 H ?_ ?_ <;> clear H
   ·intro p29
    refine av 4 ?_;intro a H;refine s_call Td H wn rfl (ih _ _ H.ro (hf.mono fun b o h=>rX b o (hgm b o h)) l[k].flow _ (hfl.mono rX) (by omega)) rfl ?_;clear H;rintro v34 J4 a w EF Jb H;obtain ⟨DL,n34,c34,rfl⟩:=EF.form;refine bJ 1 H ?_;clear H;intro a H;refine aY lS 1 (vs:=[_]) _ H wn rfl rfl rfl rfl rfl rfl rfl rfl ?_;clear H;intro w H;dsimp only [List.set,setRow] at H;refine aC ?_;refine ⟨(.mk l[k].kind l[k].code l[k].id l[k].text (bG acc rej l[k].head) (fC acc rej l[k].flow) l[k].rows,[vi l[k].kind,vi l[k].code,vi l[k].id,.string l[k].text,.slice q1 q2 q3,vi (bG acc rej l[k].head).marks.ins,vi (bG acc rej l[k].head).marks.move,.slice q4 q5 q6,.slice q7 q8 q9,.slice DL n34 c34,.slice rA rn rc],J4),sB,?_⟩;(try dsimp only);exact ⟨by rw [hce,ak p29,han],aV.mkItem (x:=.mk l[k].kind l[k].code l[k].id l[k].text (bG acc rej l[k].head) (fC acc rej l[k].flow) l[k].rows) (UO.mono Jb) EF (hrs.mono fun b o h=>Jb b o (rX b o h)),Jb⟩
   intro p29
   refine goB 4 ?_ ?_
   ·intro p36
    refine av 4 ?_;intro a H;refine s_call aix H wn rfl (arw ih (by omega) _ _ H.ro (hf.mono fun b o h=>rX b o (hgm b o h)) l[k].rows _ (hrs.mono rX) (by omega)) rfl ?_;clear H;rintro v41 HY a w U2 vX H;obtain ⟨A41,n41,c41,rfl⟩:=U2.form;have aaZ:=U2.len;rw [bO] at aaZ;subst aaZ;refine bJ 1 H ?_;clear H;intro a H;refine aY DC 1 (vs:=[_]) _ H wn rfl rfl rfl rfl rfl rfl rfl rfl ?_;clear H;intro w H;dsimp only [List.set,setRow] at H;refine qb 7 H ?_ ?_ <;> clear H
    ·intro p46
     have hone:oZ acc rej l[k]=[]:=by rw [hce,ah p29,ak p36,ak (by omega)]
     refine av 4 ?_;intro a H;refine aC ?_;refine dx ((k+1,v,xs,Lo,_)) (by exact (H.dX (Pl:=[_,_]) (dN:=[]) [] (by decide) rfl).sub ⟨rfl,rfl,rfl,rfl,rfl,aL⟩) ?_
     (try dsimp only);exact ⟨by omega,by rw [xw hk2,hone,fZ];exact hrw,by rw [xw hk2,hone,fZ];exact dQ.mono fun b o h=>vX b o (rX b o h),fun b o h=>vX b o (rX b o (hgm b o h))⟩
    intro p46
    intro a H;refine iw ?_;refine ⟨(.mk l[k].kind l[k].code l[k].id l[k].text (bG acc rej l[k].head) l[k].flow (iL acc rej l[k].rows),[vi l[k].kind,vi l[k].code,vi l[k].id,.string l[k].text,.slice q1 q2 q3,vi (bG acc rej l[k].head).marks.ins,vi (bG acc rej l[k].head).marks.move,.slice q4 q5 q6,.slice q7 q8 q9,.slice fA fn fc,.slice A41 (iL acc rej l[k].rows).length c41],HY),sB,?_⟩;(try dsimp only);exact ⟨by rw [hce,ah p29,ak p36,ah (by omega),han],aV.mkItem (x:=.mk l[k].kind l[k].code l[k].id l[k].text (bG acc rej l[k].head) l[k].flow (iL acc rej l[k].rows)) (UO.mono vX) (hfl.mono fun b o h=>vX b o (rX b o h)) U2,vX⟩
   intro p36
   intro a H;refine iw ?_;refine ⟨(.mk l[k].kind l[k].code l[k].id l[k].text (bG acc rej l[k].head) l[k].flow l[k].rows,[vi l[k].kind,vi l[k].code,vi l[k].id,.string l[k].text,.slice q1 q2 q3,vi (bG acc rej l[k].head).marks.ins,vi (bG acc rej l[k].head).marks.move,.slice q4 q5 q6,.slice q7 q8 q9,.slice fA fn fc,.slice rA rn rc],_),sB,?_⟩;(try dsimp only);exact ⟨by rw [hce,ah p29,ah p36,han],aV.mkItem (x:=.mk l[k].kind l[k].code l[k].id l[k].text (bG acc rej l[k].head) l[k].flow l[k].rows) UO (hfl.mono rX) (hrs.mono rX),fun _ _ h=>h⟩
  clear H;rintro ⟨y,Ec,g9⟩ a w hI H;dsimp only at hI H;obtain ⟨hone,xV,uU⟩:=hI;obtain ⟨e1,e2,e3,e4,e5,e6,e7,e8,e9,f1,f2,f3,f4,f5,f6,wV,-,-,-⟩:=xV.item;rw [wV] at H;dsimp only [lca,bK] at H;refine mE 2 H ?_;clear H;intro a H;refine aR gB (cs:=[_,_,_,_,_,_,_,_,_,_,_]) H wn rfl rfl (H.hp.bT 1 rfl rfl) rfl ?_;clear H;intro a H;refine gQ lT gB [_,_,_,_,_,_,_,_,_,_,_] [_,_,_,_,_,_,_,_,_,_,_] H wn rfl rfl rfl rfl rfl (by intro i q h;match i,h with|0,h=>exact h|n+1,h=>simp at h) rfl rfl ?_;clear H;intro b49 a w auW H;refine mI (Li:=[_,_,_]) (Lo:=Lo) (news:=Ec) lT gB rfl rfl H wn rfl rfl hrw (by rw [wV];rfl) (by rw [wV];exact H.hp.bT 0 rfl rfl) xV.one (by omega) (by omega) rfl ?_;clear H;intro v50 afp a w anW H;refine bJ 5 H ?_;clear H;intro a H;refine aC ?_;refine dx ((k+1,v50,xs++Ec,afp,_)) (by exact (H.dX (Pl:=[_,_,_]) (dN:=[]) [] (by decide) rfl).sub ⟨rfl,rfl,rfl,rfl,rfl,aL⟩) ?_
  (try dsimp only);exact ⟨by omega,by rw [xw hk2,hone,iM];exact anW,by rw [xw hk2,hone,kV];exact (dQ.mono fun b o h=>uU b o (rX b o h)).snoc xV (by rw [wV];rfl),fun b o h=>uU b o (rX b o (hgm b o h))⟩
 intro qp
 obtain rfl:k=l.length:=by omega
 rw [vJ] at hrw dQ;refine av 5 ?_;intro a H;refine cK ?_;obtain ⟨G',hm,rZ,H⟩:=H.nO (Li:=[]) hrw (rows:=(fC acc rej l).map ay.dat) (by simp) dQ;refine lv H results98 rfl ?_;exact H.rt rZ
theorem adx {fv:aj}:∀ n:Nat,n≤536870913→Ny fv acc rej n
 | 0,_=>fun _ _ _ _ _ _ _ h=>absurd h (by omega)
 | n+1,hn=>aru (adx n (by omega)) (by omega)
end

section
section
variable {N:Nat} {D:List Deferred} {w0:World} {F:Nat→Prop} {G0 G:GH} {L:OL} {T:List (Nat × aj)}
variable {r:Option Nat} {P:Program} {ops:Array Oper} {Q:Exit→Act→World→Prop} {rest:List Oper} {a:Act} {w:World}
variable {d:Nat} {ty:TypeId} {pos:String} {aO:Array Edge} {g:Option (Nat × Bool)}
end
end
def ace:Go.Shelf.Ren:=⟨fun|7=>90|10=>150|n=>n,fun|0=>0|3=>4|4=>4|23=>131|26=>3|27=>165|28=>166|33=>137|n=>n,fun n=>n⟩
theorem acd:Go.Proofs.SlLaysZI.n7 prog ace where
 mixed:=by kernel_rfl
 f7:=⟨f90.name,by kernel_rfl,func90.trans (aB some (by kernel_rfl))⟩
 f10:=⟨f150.name,by kernel_rfl,func150.trans (aB some (by kernel_rfl))⟩
 t0:=underlying0
 a0:=isAgg0
 z0:=sizeOf0
 v0:=zeroValue0
 t4:=underlying4
 a4:=isAgg4
 z4:=sizeOf4
 v4:=zeroValue4
 t23:=underlying131
 a23:=isAgg131
 z23:=sizeOf131
 v23:=zeroValue131
 t26:=underlying3
 a26:=isAgg3
 z26:=sizeOf3
 v26:=zeroValue3
 t27:=underlying165
 a27:=isAgg165
 z27:=sizeOf165
 v27:=zeroValue165
 t28:=underlying166
 a28:=isAgg166
 z28:=sizeOf166
 v28:=zeroValue166
 t33:=underlying137
 a33:=isAgg137
 z33:=sizeOf137
 v33:=zeroValue137
def adZ:Go.Shelf.Ren:=⟨fun|6=>89|8=>149|9=>148|11=>209|n=>n,fun|0=>0|24=>41|26=>3|28=>166|33=>137|n=>n,fun n=>n⟩
theorem ate:Go.Proofs.SlLaysZI.n6 prog adZ where
 mixed:=by kernel_rfl
 f6:=⟨f89.name,by kernel_rfl,func89.trans (aB some (by kernel_rfl))⟩
 f8:=⟨f149.name,by kernel_rfl,func149.trans (aB some (by kernel_rfl))⟩
 f11:=⟨f209.name,by kernel_rfl,func209.trans (aB some (by kernel_rfl))⟩
 t0:=underlying0
 a0:=isAgg0
 z0:=sizeOf0
 v0:=zeroValue0
 t24:=underlying41
 a24:=isAgg41
 z24:=sizeOf41
 v24:=zeroValue41
 t26:=underlying3
 a26:=isAgg3
 z26:=sizeOf3
 v26:=zeroValue3
 t28:=underlying166
 a28:=isAgg166
 z28:=sizeOf166
 v28:=zeroValue166
 i26:=by kernel_rfl
def atd:Go.Shelf.Ren:=⟨fun|5=>148|7=>207|8=>208|10=>230|11=>231|12=>232|13=>233|14=>234|15=>235|16=>114|17=>236|18=>237|19=>238|20=>239|30=>255|31=>256|32=>257|33=>258|34=>259|35=>174|40=>269|n=>n,fun|0=>0|3=>3|4=>4|5=>5|9=>9|22=>41|23=>41|25=>3|32=>199|35=>301|36=>302|41=>114|44=>308|46=>310|53=>328|57=>180|63=>344|64=>345|n=>n,fun n=>n⟩
theorem adY:Go.Proofs.SlLaysM.n5 prog atd where
 mixed:=by kernel_rfl
 f5:=⟨f148.name,by kernel_rfl,func148.trans (aB some (by kernel_rfl))⟩
 f7:=⟨f207.name,by kernel_rfl,func207.trans (aB some (by kernel_rfl))⟩
 f8:=func208.trans (aB some (by kernel_rfl))
 f10:=⟨f230.name,by kernel_rfl,func230.trans (aB some (by kernel_rfl))⟩
 f11:=⟨f231.name,by kernel_rfl,func231.trans (aB some (by kernel_rfl))⟩
 f12:=⟨f232.name,by kernel_rfl,func232.trans (aB some (by kernel_rfl))⟩
 f13:=⟨f233.name,by kernel_rfl,func233.trans (aB some (by kernel_rfl))⟩
 f14:=⟨f234.name,by kernel_rfl,func234.trans (aB some (by kernel_rfl))⟩
 f15:=⟨f235.name,by kernel_rfl,func235.trans (aB some (by kernel_rfl))⟩
 f16:=⟨f114.name,by kernel_rfl,func114.trans (aB some (by kernel_rfl))⟩
 f17:=⟨f236.name,by kernel_rfl,func236.trans (aB some (by kernel_rfl))⟩
 f18:=⟨f237.name,by kernel_rfl,func237.trans (aB some (by kernel_rfl))⟩
 f19:=func238.trans (aB some (by kernel_rfl))
 f20:=func239.trans (aB some (by kernel_rfl))
 f30:=⟨f255.name,by kernel_rfl,func255.trans (aB some (by kernel_rfl))⟩
 f31:=func256.trans (aB some (by kernel_rfl))
 f32:=func257.trans (aB some (by kernel_rfl))
 f33:=⟨f258.name,by kernel_rfl,func258.trans (aB some (by kernel_rfl))⟩
 f34:=⟨f259.name,by kernel_rfl,func259.trans (aB some (by kernel_rfl))⟩
 f35:=⟨f174.name,by kernel_rfl,func174.trans (aB some (by kernel_rfl))⟩
 f40:=⟨f269.name,by kernel_rfl,func269.trans (aB some (by kernel_rfl))⟩
 t0:=underlying0
 a0:=isAgg0
 z0:=sizeOf0
 v0:=zeroValue0
 t3:=underlying3
 a3:=isAgg3
 z3:=sizeOf3
 v3:=zeroValue3
 t4:=underlying4
 a4:=isAgg4
 z4:=sizeOf4
 v4:=zeroValue4
 t5:=underlying5
 a5:=isAgg5
 z5:=sizeOf5
 v5:=zeroValue5
 t9:=underlying9
 a9:=isAgg9
 z9:=sizeOf9
 v9:=zeroValue9
 t22:=underlying41
 a22:=isAgg41
 z22:=sizeOf41
 v22:=zeroValue41
 t23:=underlying41
 a23:=isAgg41
 z23:=sizeOf41
 v23:=zeroValue41
 t25:=underlying3
 a25:=isAgg3
 z25:=sizeOf3
 v25:=zeroValue3
 t32:=underlying199
 a32:=isAgg199
 z32:=sizeOf199
 v32:=zeroValue199
 t35:=underlying301
 a35:=isAgg301
 z35:=sizeOf301
 v35:=zeroValue301
 t36:=underlying302
 a36:=isAgg302
 z36:=sizeOf302
 v36:=zeroValue302
 t41:=underlying114
 a41:=isAgg114
 z41:=sizeOf114
 v41:=zeroValue114
 t44:=underlying308
 a44:=isAgg308
 z44:=sizeOf308
 v44:=zeroValue308
 t46:=underlying310
 a46:=isAgg310
 z46:=sizeOf310
 v46:=zeroValue310
 t53:=underlying328
 a53:=isAgg328
 z53:=sizeOf328
 v53:=zeroValue328
 t57:=underlying180
 a57:=isAgg180
 z57:=sizeOf180
 v57:=zeroValue180
 t63:=underlying344
 a63:=isAgg344
 z63:=sizeOf344
 v63:=zeroValue344
 t64:=underlying345
 a64:=isAgg345
 z64:=sizeOf345
 v64:=zeroValue345
section
open Go.RowKit Go.Maps
theorem ail:∀ args w,(callFunc 148 args).run prog w=.ok (.enter 148 args) w:=enters func148 rfl (by kernel_rfl)
theorem ain:∀ args w,(callFunc 150 args).run prog w=.ok (.enter 150 args) w:=enters func150 rfl (by kernel_rfl)
theorem anH {G:GH} {w:World} (h:Hold G w) {b:Nat} (hb:w.heap.size≤b):G b=none:=by
 cases hg:G b with
 | none=>rfl
 | some o=>exact absurd (lt_of_heap (h b o hg)) (by omega)
theorem ZJ {G:GH} {w w':World} (h:Hold G w) (hb:Below w.heap.size w w') {b:Nat} {o:Obj} (hn:w.heap.size≤b) (ho:w'.heap[b]?=some o):Ext w.heap.size G (G.add b o) w':=by
 refine ⟨fun k o' hk=>GH.Ie G (anH h hn) k o' hk,fun k o' hk=>?_,fun k o' hk=>?_⟩
 ·unfold GH.add at hk
  split at hk
  ·rename_i e;exact .inr (e ▸ hn)
  exact .inl hk
 unfold GH.add at hk
 split at hk
 ·rename_i e;rw [e,ho,hk]
 exact (hb.block k (lt_of_heap (h k o' hk))).trans (h k o' hk)
theorem apw (G:GH) (w0:World) (hG:Hold G w0) (mb:Option Nat) :
  Calls prog 90 #[.map mb] w0 (bB w0 G fun u G'=>∃ bx,u=.func (.func 150) #[] #[(aM bx 0)]∧G' bx=some (.cells #[.map mb] 131 (0,0))):=by
 have h:CallsIn Fence.wide 5 prog 90 #[.map mb] w0 fun e w'=>e=.returned (.func (.func 150) #[] #[(aM w0.heap.size 0)])∧w'=w0.alloc (.cells #[.map mb] 131):=AnyZI.keys_in acd Fence.wide 5 trivial rfl mb w0;refine ((callsIn_wide (n:=5)).1 h).mono ?_;rintro e w' ⟨rfl,rfl⟩;have hb:Below w0.heap.size w0 (w0.alloc (.cells #[.map mb] 131)):=(Below.refl _ w0).alloc (bR _) _;exact ⟨_,_,rfl,hb,ZJ hG hb (bR _) (show (w0.heap.push _)[w0.heap.size]?=_ by simp),_,rfl,GH.Ig _ _ _⟩
def GY (_:aj):Option (DataW Unit × List MemPlace):=some (.nil,[])
theorem aqf {w:World} {b clock:Nat} {es:Array MapEntry} {l:List Int} (hb:w.heap[b]?=some (.map es clock)) (hs:MapKept.Stamped es clock) (hk:es.toList.map (·.key)=l.map (Value.int .i64)) (hw:∀ k∈l,-9223372036854775808≤k∧k < 9223372036854775808) (hl:l.length≤4294967296) :
  ∃ D:DataW Unit,w.ownsMap prog 3 GY b l.length D∧(intKeys D).Perm l∧Maps.size D=l.length:=by
 have hlen:es.size=l.length:=by
  have:=aB List.length hk
  simpa using this
 have hml:maxLen=9223372036854775807:=rfl
 have hr:∀ x∈es.toList,∃ k∈l,Go.WideElems.rd prog 3 GY x=some (.int .i64 k,.nil):=by
  intro x hx
  have h1:x.key∈l.map (Value.int .i64):=by rw [← hk];exact List.mem_map_of_mem hx
  obtain ⟨k,h2,h3⟩:=List.mem_map.1 h1;obtain ⟨h4,h5⟩:=hw k h2
  have hwf:(Lit.int .i64 k).wf=true:=by
   show (decide (IntKind.i64.min≤k) && decide (k≤IntKind.i64.max))=true
   rw [show IntKind.i64.min=-9223372036854775808 by decide,show IntKind.i64.max=9223372036854775807 by decide]
   simp;omega
  refine ⟨k,h2,?_⟩
  unfold Go.WideElems.rd
  rw [← h3]
  have h6:keyOf prog 3 (.int .i64 k)=some (.int .i64 k):=by
   unfold keyOf mapKey
   rw [underlying3]
   simp [hwf]
  rw [h6]
  rfl
 refine ⟨_,⟨es,clock,hb,⟨by omega,hs,fun x hx=>?_⟩,by omega,rfl⟩,?_,?_⟩
 ·obtain ⟨k,-,h⟩:=hr x hx;exact ⟨_,h⟩
 ·show (((es.toList.map (Go.WideElems.rg prog 3 GY)).foldr DataW.insert []).map fun p=>Go.intOf p.1).Perm l
  refine ((Go.WideShapes.sorted_perm _).map _).trans ?_;rw [List.map_map]
  have h1:es.toList.map ((fun p:Lit × DataW Unit=>Go.intOf p.1) ∘ Go.WideElems.rg prog 3 GY)=l:=by
   have h2:es.toList.map ((fun p:Lit × DataW Unit=>Go.intOf p.1) ∘ Go.WideElems.rg prog 3 GY)=(es.toList.map (·.key)).map fun v=>match v with|.int _ a=>a|_=>0:=by
    rw [List.map_map];refine List.map_congr_left fun x hx=>?_;obtain ⟨k,hkl,h⟩:=hr x hx
    obtain ⟨k',h3,h4⟩:∃ k',Go.WideElems.rd prog 3 GY x=some (.int .i64 k',.nil)∧x.key=.int .i64 k':=by
     have h5:x.key∈l.map (Value.int .i64):=by rw [← hk];exact List.mem_map_of_mem hx
     obtain ⟨k',h6,h7⟩:=List.mem_map.1 h5;refine ⟨k,h,?_⟩;have h8:=Go.WideElems.rd_key h;obtain ⟨z,h9,h10,-⟩:=Maps.keyOf_i64 underlying3 h8
     cases h10
     exact h9
    simp only [Function.comp,Go.WideElems.rg_of h3,h4,Go.intOf]
   rw [h2,hk,List.map_map]
   simp [Function.comp_def]
  rw [h1]
 show ((es.toList.map (Go.WideElems.rg prog 3 GY)).foldr DataW.insert []).length=_
 rw [(Go.WideShapes.sorted_perm _).length_eq,bO,uJ,hlen]
theorem atg (m:Nat):AnyZI.SortsIn prog adZ Fence.wide m :=
  ⟨fun blk off cap ss W hH hblk hsz=>callsIn_wide.2 (AnyM.slices_Sort_int adY blk off cap ss W hH hblk hsz),
   fun p cap W=>callsIn_wide.2 (AnyM.slices_Sort_int_none adY p cap W)⟩
def yB (l:List Int):List Int:=l.mergeSort leI
theorem atf (G:GH) (w0:World) (hG:Hold G w0) (b bx clock:Nat) (es:Array MapEntry) (l:List Int) (hbx:G bx=some (.cells #[.map (some b)] 131 (0,0))) (hb:w0.heap[b]?=some (.map es clock)) (hs:MapKept.Stamped es clock) (hk:es.toList.map (·.key)=l.map (Value.int .i64))
  (hw:∀ k∈l,-9223372036854775808≤k∧k < 9223372036854775808) (hl:l.length≤4294967296) :
  Calls prog 89 #[.func (.func 150) #[] #[(aM bx 0)]] w0 (bB w0 G fun u G'=>au G' (.sl 1 ((yB l).map fun k=>[li k])) u):=by
 obtain ⟨D0,hown,hperm,hsize⟩:=aqf hb hs hk hw hl;have hml:maxLen=9223372036854775807:=rfl
 have hseq:SeqGives Fence.wide 2 prog 150 #[(aM bx 0)] encZ (fun ss=>ss.Perm (intKeys D0)) (Maps.size D0) w0 :=
  AnyZI.keys_gives (ρ:=ace) { acd with } Fence.wide _ trivial rfl (by omega) bx b l.length D0 _ (lt_of_heap (hG _ _ hbx)) (by simp [World.cell?,hG _ _ hbx]) hown
 have cS:=AnyZI.sorted_in ate Fence.wide 5 trivial trivial trivial trivial rfl (by omega) (atg _) ail 150 #[(aM bx 0)] trivial ain _ _ (by omega) (by omega) _ hseq
 change CallsIn _ _ prog 89 _ _ _ at cS
 refine ((callsIn_wide (n:=5)).1 cS).mono ?_;rintro e w' ⟨v,ss,rfl,hS,hrow,-,hbel⟩;have hS2:ss.mergeSort (fun x y=>decide (x≤y))=yB l:=mergeSort_of_perm_i (hS.trans hperm);rw [hS2] at hrow
 have hlen:ss.length=(yB l).length:=by rw [yB,List.length_mergeSort,hS.length_eq,hperm.length_eq]
 have dQ:∀ (G1:GH) (xs:List Int),bV G1 1 (xs.map fun k=>[li k]) (xs.map encZ):=by
  intro G1 xs
  induction xs with
  | nil=>exact bV.nil
  | cons x xs ih =>
   have h8:=((bV.nil (G:=G1) (sz:=1)).snoc (q:=[li x]) (cs:=[encZ x]) (by simp [aV,au,li,Value.oneCell']) rfl).append ih
   simpa using h8
 rcases hrow.2 with ⟨rfl,hz⟩|⟨gb,cap,cur,rfl,hbase,hgb,r1,r2,r3,r4⟩
 ·refine ⟨_,G,rfl,hbel,⟨fun _ _ h=>h,fun _ _ h=>.inl h,fun k o hk=>(hbel.block k (lt_of_heap (hG k o hk))).trans (hG k o hk)⟩,?_⟩;rw [List.eq_nil_of_length_eq_zero (by omega:(yB l).length=0)]
  simp only [au]
  exact ⟨none,0,by simp,by simp,by simp [maxLen],fun h=>absurd rfl h⟩
 exact ⟨_,_,rfl,hbel,ZJ hG hbel hbase hgb,au.fu (GH.Ig G gb _) (by simp [hlen]) r1 r2 (by simpa using r4) (dQ _ _)⟩
end
section
abbrev jw (l:List Int):List (Int × aj):=l.map fun q=>(q,.bool true)
theorem adU (l:List Int):(jw l).map (·.1)=l:=by rw [List.map_map];simp [Function.comp_def]
theorem asD (l r:List Int):jw (l++r)=jw l++jw r:=kV
theorem VN:∀ (i:Nat) (l:List (Int × aj)),(iP i l).map (·.key)=l.map fun x=>Value.int .i64 x.1
 | _,[]=>rfl
 | i,(k,v) :: r=>by rw [iP,fG,fG,VN (i+1) r]
theorem VL:∀ (i:Nat) (l:List (Int × aj)),(iP i l).map (·.born)=List.range' i l.length
 | _,[]=>rfl
 | i,(k,v) :: r=>by rw [iP,fG,VL (i+1) r];rfl
theorem acs:∀ (i n:Nat) (l:List (Int × aj)),(iP i l)[n]?=(l[n]?).map fun x=>⟨.int .i64 x.1,x.2,i+n⟩
 | _,_,[]=>rfl
 | i,0,(k,v) :: r=>rfl
 | i,n+1,(k,v) :: r=>by rw [iP,List.getElem?_cons_succ,List.getElem?_cons_succ,acs (i+1) n r,show i+1+n=i+(n+1) by omega]
theorem apv {l:List (Int × aj)} (h:(l.map (·.1)).Nodup):MapKept.Stamped (iP 0 l).toArray l.length:=by
 refine ⟨fun x hx=>?_,?_,?_⟩
 ·have h1:=List.mem_map_of_mem (f:=(·.born)) hx
  rw [VL] at h1
  have:=List.mem_range'_1.1 h1
  omega
 ·show ((iP 0 l).map (·.born)).Nodup
  rw [VL];exact List.nodup_range'
 ·show ((iP 0 l).map (·.key)).Nodup
  rw [VN,show (fun x:Int × aj=>Value.int .i64 x.1)=Value.int .i64 ∘ (·.1) from rfl,← List.map_map]
  exact List.pairwise_map.2 (h.imp fun hne e=>hne (by injection e))
theorem Tw (x:Int):∀ (i j:Nat) (l:List Int),∃ an,Instr.findNow (.int .i64) (.int .i64 x) (iP i (jw l)) j=some an∧((x∈l∧∃ n,an=some (j+n,.bool true)∧l[n]?=some x)∨(x∉l∧an=none))
 | _,_,[]=>⟨none,rfl,.inr ⟨by simp,rfl⟩⟩
 | i,j,k :: r=>by
  by_cases e:k=x
  ·subst e
   exact ⟨some (j,.bool true),by simp only [jw,fG,iP,Instr.findNow,Instr.sameNow,ak,beq_self_eq_true],.inl ⟨eX,0,rfl,rfl⟩⟩
  ·have hb:(x == k)=false:=by simp;exact fun h=>e h.symm
   obtain ⟨an,h1,h2⟩:=Tw x (i+1) (j+1) r
   refine ⟨an,by simpa only [jw,fG,iP,Instr.findNow,Instr.sameNow,ak,hb] using h1,?_⟩
   rcases h2 with ⟨h3,n,h4,h5⟩|⟨h3,h4⟩
   ·exact .inl ⟨fJ _ h3,n+1,by rw [h4,show j+1+n=j+(n+1) by omega],h5⟩
   ·exact .inr ⟨fun h=>(iX.1 h).elim (fun h=>e h.symm) h3,h4⟩
theorem VO {α β:Type} (f:α→β):∀ (l:List α) (j:Nat),(l.eraseIdx j).map f=(l.map f).eraseIdx j
 | [],_=>rfl
 | x :: l,0=>rfl
 | x :: l,j+1=>by rw [List.eraseIdx_cons_succ,fG,fG,List.eraseIdx_cons_succ,VO f l j]
def xG (l:List Int) (x:Int):List Int:=if x∈l then l else l++[x]
theorem afD {l:List Int} {x y:Int}:y∈xG l x↔y∈l∨y=x:=by
 unfold xG
 split
 ·rename_i h
  exact ⟨.inl,fun h2=>h2.elim id fun e=>e ▸ h⟩
 ·simp
theorem afE {l:List Int} {x:Int} (h:l.Nodup):(xG l x).Nodup:=by
 unfold xG
 split
 ·exact h
 ·rename_i hx
  exact List.nodup_append.2 ⟨h,List.pairwise_singleton _ _,fun a ha b hb e=>hx (by rw [tL] at hb;rw [← hb,← e];exact ha)⟩
section
variable {N:Nat} {D:List Deferred} {w0:World} {F:Nat→Prop} {G0 G:GH} {L:OL} {T:List (Nat × aj)}
variable {r:Option Nat} {P:Program} {ops:Array Oper} {Q:Exit→Act→World→Prop} {rest:List Oper} {a:Act} {w:World}
variable {d:Nat} {ty:TypeId} {pos:String} {aO:Array Edge} {g:Option (Nat × Bool)}
theorem WB {t kt et:TypeId} {x y z:Operand} {b i:Nat} {l:List Int} {ky:Int} (hm:P.underlying t=some (.map kt et)) (hk:P.underlying kt=some (.int .i64)) (H:St N D w0 F G0 G L T a w)
  (hw:Region.wanted ⟨none,.mapUpdate t x y z,ty,pos,aO,g⟩ (yielded ops a.tmps)=true) (hx:ev T x=some (.map (some b))) (hy:ev T y=some (.int .i64 ky)) (hzv:ev T z=some (.bool true)) (hi:L[i]?=some (b,eZ (jw l)))
  (k:∀ w',St N D w0 F G0 G (L.set i (b,eZ (jw (xG l ky)))) T a w'→WL r P ops Q rest a w'):WL r P ops Q (⟨none,.mapUpdate t x y z,ty,pos,aO,g⟩ :: rest) a w:=by
 obtain ⟨an,hf,han⟩:=Tw ky 0 0 l
 rcases han with ⟨hm2,n,rfl,hn⟩|⟨hm2,rfl⟩
 ·have hkey:MapKept.IsKey (.int .i64) (.int .i64 ky):=by trivial
  have hb:w.heap[b]?=some (.map (iP 0 (jw l)).toArray (jw l).length):=H.hp.own _ (kT hi)
  have h1:=MapKept.run_checkKey (P:=P) (w:=w) hk hkey false 9999
  have h2:=MapKept.run_findKey (P:=P) (w:=w) (l:=(iP 0 (jw l)).toArray.toList) hk (by simpa using hf)
  have h3:=MapKept.run_keyThatStays (P:=P) (w:=w) hkey
  have hgn:(iP 0 (jw l))[n]?=some ⟨.int .i64 ky,.bool true,0+n⟩:=by
   rw [acs];unfold jw;rw [sM,hn];rfl
  have hg:((iP 0 (jw l)).toArray[n]?.map (·.key)).getD (.int .i64 ky)=.int .i64 ky:=by
   rw [List.getElem?_toArray,hgn];rfl
  have hmod:(iP 0 (jw l)).toArray.modify n (fun e=>{ e with key:=.int .i64 ky,val:=.bool true })=(iP 0 (jw l)).toArray:=by
   apply Array.ext_getElem?
   intro j
   rw [Array.getElem?_modify]
   by_cases hij:n=j
   ·subst hij
    rw [ak rfl,List.getElem?_toArray,hgn];rfl
   ·rw [ah hij]
  have ha:xG l ky=l:=by unfold xG;rw [ak hm2]
  rw [ha] at k
  refine Xg (w':={ w with heap:=w.heap.setIfInBounds b (eZ (jw l)) }) hw rfl ?_ (k _ (H.move (H.hp.upd hi (Xc hb))))
  show (execOp a.eval _).run P w=.ok _ { w with heap:=w.heap.setIfInBounds b (.map (iP 0 (jw l)).toArray (jw l).length) }
  generalize (iP 0 (jw l)).toArray=es at hb h2 hg hmod ⊢
  simp [execOp,Instr.mapUpdate,H.ev hx,H.ev hy,H.ev hzv,dV,nG hm,MapKept.run_getObj_map hb,h1,h2,hg,h3,hmod,MapKept.run_setObj_map _ hb,Result.andThen]
 ·refine MI hm hk H hw hx hy hzv hi (Mj (by rw [adU];exact hm2)) fun w' H'=>k w' ?_
  have ha:xG l ky=l++[ky]:=by unfold xG;rw [ah hm2]
  rw [ha,asD]
  exact H'
theorem arT {t kt et:TypeId} {x y:Operand} {b i:Nat} {l:List Int} {ky:Int} (hm:P.underlying t=some (.map kt et)) (hk:P.underlying kt=some (.int .i64)) (hnd:l.Nodup) (H:St N D w0 F G0 G L T a w)
  (hw:Region.wanted ⟨none,.call { callee:=.builtin .delete,args:=#[x,y],argTypes:=#[t,kt] },ty,pos,aO,g⟩ (yielded ops a.tmps)=true) (hx:ev T x=some (.map (some b))) (hy:ev T y=some (.int .i64 ky)) (hi:L[i]?=some (b,eZ (jw l)))
  (k:∀ es clock w',MapKept.Stamped es clock→es.toList.map (·.key)=(l.filter fun q=>decide (q≠ky)).map (Value.int .i64)→St N D w0 F G0 G (L.set i (b,.map es clock)) T a w'→WL r P ops Q rest a w'):WL r P ops Q (⟨none,.call { callee:=.builtin .delete,args:=#[x,y],argTypes:=#[t,kt] },ty,pos,aO,g⟩ :: rest) a w:=by
 obtain ⟨an,hf,han⟩:=Tw ky 0 0 l
 have hkey:MapKept.IsKey (.int .i64) (.int .i64 ky):=by trivial
 have hb:w.heap[b]?=some (.map (iP 0 (jw l)).toArray (jw l).length):=H.hp.own _ (kT hi)
 have hst:=apv (l:=jw l) (by rw [adU];exact hnd)
 have hks:(iP 0 (jw l)).toArray.toList.map (·.key)=l.map (Value.int .i64):=by
  show (iP 0 (jw l)).map (·.key)=_
  rw [VN,List.map_map];rfl
 have h2:=fun es':Array MapEntry=>Xc (o:=.map es' (jw l).length) hb
 have h3:=MapKept.run_findKey (P:=P) (w:=w) (l:=(iP 0 (jw l)).toArray.toList) hk (by simpa using hf)
 rcases han with ⟨hm2,n,rfl,hn⟩|⟨hm2,rfl⟩
 ·have hnl:n < l.length:=(jO.1 hn).1
  have hln:l[n]=ky:=(jO.1 hn).2
  have hsz:n < (iP 0 (jw l)).toArray.size:=by
   have:=aB List.length hks
   simp at this
   simp;omega
  have ane:((iP 0 (jw l)).toArray.eraseIdxIfInBounds n).toList=(iP 0 (jw l)).toArray.toList.eraseIdx n:=by
   unfold Array.eraseIdxIfInBounds
   rw [dif_pos hsz]
   simp
  refine fF (v:=.tuple #[]) (w':={ w with heap:=w.heap.setIfInBounds b (.map ((iP 0 (jw l)).toArray.eraseIdxIfInBounds n) (jw l).length) }) hw rfl ?_
   (k _ _ _ (MapKept.stamped_erase hst n) ?_ (H.move (H.hp.upd hi (h2 _))))
  ·generalize (iP 0 (jw l)).toArray=es at hb h3 ⊢
   have h1:=MapKept.run_checkKey (P:=P) (w:=w) hk hkey es.isEmpty 9999
   simp [execOp,resolve,invoke,builtin,Builtin.delete_,H.ev hx,H.ev hy,dV,nG hm,MapKept.run_getObj_map hb,h1,h3,MapKept.run_setObj_map _ hb,Result.andThen]
  ·rw [ane,VO,hks,← VO]
   congr 1
   have he:l.erase ky=l.eraseIdx n:=by
    have:=hnd.idxOf_getElem n hnl
    rw [hln] at this
    rw [← this];exact List.erase_eq_eraseIdx_of_idxOf rfl
   rw [← he,hnd.erase_eq_filter]
   exact List.filter_congr fun x _=>by by_cases h:x=ky <;> simp [h]
 ·refine fF (v:=.tuple #[]) (w':={ w with heap:=w.heap.setIfInBounds b (.map (iP 0 (jw l)).toArray (jw l).length) }) hw rfl ?_ (k _ _ _ hst ?_ (H.move (H.hp.upd hi (h2 _))))
  ·generalize (iP 0 (jw l)).toArray=es at hb h3 ⊢
   have h1:=MapKept.run_checkKey (P:=P) (w:=w) hk hkey es.isEmpty 9999
   simp [execOp,resolve,invoke,builtin,Builtin.delete_,H.ev hx,H.ev hy,dV,nG hm,MapKept.run_getObj_map hb,h1,h3,MapKept.run_setObj_map _ hb,Result.andThen]
  ·rw [hks,List.filter_eq_self.2 fun x hx=>iO (show ¬ x=ky from fun e=>hm2 (e ▸ hx))]
end
end
theorem akb:∀ args w,(callFunc 90 args).run prog w=.ok (.enter 90 args) w:=enters func90 rfl (by kernel_rfl)
theorem ajZ:∀ args w,(callFunc 89 args).run prog w=.ok (.enter 89 args) w:=enters func89 rfl (by kernel_rfl)
theorem ZE:∀ args w,(callFunc 87 args).run prog w=.ok (.enter 87 args) w:=enters func87 rfl (by kernel_rfl)
theorem Zx:∀ args w,(callFunc 38 args).run prog w=.ok (.enter 38 args) w:=enters func38 rfl (by kernel_rfl)
def refs (h:dP):List Int:=h.marks.ins :: (h.marks.bH.map fO.rev++h.marks.layers.map cB.rev)
def sK (K l:List Int):List Int:=l.foldl xG K
theorem NA (K l r:List Int):sK K (l++r)=sK (sK K l) r:=List.foldl_append
theorem NC {l:List Int}:∀ {K:List Int} {y:Int},y∈sK K l↔y∈K∨y∈l:=by
 induction l with
 | nil=>intro K y;simp [sK]
 | cons x l ih =>
  intro K y
  show y∈sK (xG K x) l↔_
  rw [ih,afD,iX,or_assoc]
theorem XZ {l:List Int}:∀ {K:List Int},K.Nodup→(sK K l).Nodup:=by
 induction l with
 | nil=>intro K h;exact h
 | cons x l ih=>intro K h;exact ih (afE h)
theorem afF {K:List Int} {x:Int} {α:Type} {f:α→Int} {A:List α} {k:Nat} (hk:k < A.length):xG (sK K (x :: (A.take k).map f)) (f A[k])=sK K (x :: (A.take (k+1)).map f):=by
 rw [fV hk,kV,← oq,NA];rfl
theorem afG {K B:List Int} {x:Int} {α:Type} {f:α→Int} {A:List α} {k:Nat} (hk:k < A.length):xG (sK K (x :: (B++(A.take k).map f))) (f A[k])=sK K (x :: (B++(A.take (k+1)).map f)):=by
 rw [fV hk,kV,show x :: (B++((A.take k).map f++[A[k]].map f))=(x :: (B++(A.take k).map f))++[f A[k]] from by simp,NA];rfl
abbrev Cb (b3 bm:Nat) (K:List Int):OL:=[(b3,.cells #[.map (some bm)] 131 (0,0)),(bm,eZ (jw K))]
theorem acO (G:GH) (w0:World) (b3 bm:Nat) (K:List Int) (h:dP) (p d y:Option Addr × Nat × Nat) (hR:iA G h (aQ p) (aQ d) (aQ y)) (hO:gG G (Cb b3 bm K) w0) :
  Calls prog 87 #[.agg #[aQ p,vi h.marks.ins,vi h.marks.move,aQ d,aQ y],(aM b3 0)] w0 (fP w0 G (Cb b3 bm K) fun _ G' L'=>L'=Cb b3 bm (sK K (refs h))):=by
 obtain ⟨dA,dn,dc⟩:=d;obtain ⟨yA,yn,yc⟩:=y;have hml:maxLen=9223372036854775807:=rfl;have hd:=hR.bH;have hy:=hR.layers;dsimp only [aQ] at hd hy;have e1:=hd.len;have e2:=hy.len;rw [bO] at e1 e2;subst e1 e2;obtain ⟨_,_,hu1,hd1,hd2,-⟩:=hd.slice;obtain ⟨_,_,hu2,hy1,hy2,-⟩:=hy.slice
 injection hu1 with q1 q2 q3
 subst q1 q3
 injection hu2 with q1 q2 q3
 subst q1 q3;rw [bO] at hd1 hy1;refine jr (N:=35) (T:=[(0,_),(1,_)]) func87 rfl ntmps87 rfl rfl hO ?_;intro a H;refine fK (fun _ K1=>?_);refine dW (cs:=[_,_,_,_,_]) H wn rfl rfl rfl ?_;clear H;intro b2 a w hb2 H;refine K1 _ _ ?_;clear K1;refine kP H (SR fun _ K2=>Ro yD 1 rfl (Rf Bp rfl (dU Cz aT 0 rfl rfl ?_)));clear H;intro a H;refine WB (i:=2) wG lq H wn rfl rfl rfl rfl ?_;clear H;intro w H;dsimp only [List.set] at H;refine K2 _ _ ?_;clear K2;refine kP H (SQ fun _ K3=>SR fun _ K4=>Rf Bp rfl (dU FD Ce 0 rfl rfl (Rl uD rfl (Rm rfl (Kz K4 (SB ?_))))));clear H K4;intro a H;skip;refine eH (ι:=Nat) (Tc:=[(1,_),(2,_),(13,_),(14,_)]) (Lc:=[(_,_),(_,_)]) (fun gh=>[(15,vi gh)]) (fun gh=>[(bm,eZ (jw (sK K (h.marks.ins :: (h.marks.bH.take gh).map fO.rev))))]) (fun gh=>G) (fun gh=>gh≤h.marks.bH.length) (fun gh=>h.marks.bH.length - gh) (0) (by exact (H).sub ⟨rfl,rfl,rfl,rfl,rfl,aL⟩) ?_ ?_
 ·exact iH _
 clear H;intro i a w hI H;have hi:=hI;dsimp only [lca,bK] at H;refine kP H (SR fun _ K5=>Rc rfl (Kz K5 (SQ fun _ K6=>Cd rfl ?_ ?_))) <;> clear H K5
 ·intro h16 a H
  try have p16:=dT h16
  have hi2:i < h.marks.bH.length:=by omega
  obtain ⟨b,o,rfl,hrow⟩:=Ob hd hi2;refine kP H (Kc K6 (SQ fun _ K7=>SB (SR fun _ K8=>Ri uD oG rfl rfl ?_)));clear H K6;intro a H;refine aR oG (cs:=[_,_]) H wn rfl rfl (fun j v hj=>H.hp.aH (hrow j v hj)) rfl ?_;clear H;intro a H;refine dJ oG H wn rfl ?_;clear H;intro b4 a w hb4 H;refine aY oG 0 (vs:=[_,_]) _ H wn rfl rfl rfl rfl rfl rfl rfl rfl ?_;clear H;intro w H;dsimp only [List.set,setRow] at H;refine K8 _ _ ?_;clear K8;refine kP H (SC (Ro yD 2 rfl (dU IG aT 0 rfl rfl ?_)));clear H;intro a H;refine WB (i:=3) wG lq H wn rfl rfl rfl rfl ?_;clear H;intro w H;dsimp only [List.set] at H;rw [afF hi2] at H;refine kH H (Kn K7 (SC (Rd rfl (Rm rfl ?_))));clear H K7;intro a H;refine aC ?_;refine dx (i+1) (by exact (H.dX (Pl:=[_,_,_,_]) (dN:=[_,_,_]) [1,2,3] (by decide) rfl).sub ⟨rfl,rfl,rfl,rfl,rfl,aL⟩) ?_
  omega
 intro h16 a H
 try have p16:=dF h16
 obtain rfl:i=h.marks.bH.length:=by omega
 rw [vJ] at H;refine jI ?_;refine K3 _ _ ?_;clear K3;refine kP H (SR fun _ K9=>Rf Bp rfl (dU KN JM 0 rfl rfl (Rl nP rfl (Rm rfl (Kz K9 (SB ?_))))));clear H K9;intro a H;skip;refine eH (ι:=Nat) (Tc:=[(1,_),(25,_),(26,_)]) (Lc:=[(_,_),(_,_)]) (fun gh=>[(27,vi gh)]) (fun gh=>[(bm,eZ (jw (sK K (h.marks.ins :: (h.marks.bH.map fO.rev++(h.marks.layers.take gh).map cB.rev)))))]) (fun gh=>G) (fun gh=>gh≤h.marks.layers.length) (fun gh=>h.marks.layers.length - gh) (0) (by exact (by rw [List.take_zero,sO,fZ];exact (H.sub ⟨rfl,rfl,rfl,rfl,aL⟩))) ?_ ?_
 ·exact iH _
 clear H;intro k a w hI H;have hk:=hI;dsimp only [lca,bK] at H;refine kP H (SR fun _ eU=>Rc rfl (Kz eU (SQ fun _ fQ=>Cd rfl ?_ ?_))) <;> clear H eU
 ·intro nV a H
  try have p28:=dT nV
  have hk2:k < h.marks.layers.length:=by omega
  obtain ⟨b,o,rfl,hrow⟩:=EH hy hk2;refine kP H (Kc fQ (SQ fun _ iF=>SB (SR fun _ jd=>Ri nP jy rfl rfl ?_)));clear H fQ;intro a H;refine aR jy (cs:=[_,_,_,_]) H wn rfl rfl (fun j v hj=>H.hp.aH (hrow j v hj)) rfl ?_;clear H;intro a H;refine dJ jy H wn rfl ?_;clear H;intro b6 a w hb6 H;refine aY jy 0 (vs:=[_,_,_,_]) _ H wn rfl rfl rfl rfl rfl rfl rfl rfl ?_;clear H;intro w H;dsimp only [List.set,setRow] at H;refine jd _ _ ?_;clear jd;refine kP H (SC (Ro yD 2 rfl (dU Tf aT 0 rfl rfl ?_)));clear H;intro a H;refine WB (i:=3) wG lq H wn rfl rfl rfl rfl ?_;clear H;intro w H;dsimp only [List.set] at H;rw [afG hk2] at H;refine kH H (Kn iF (SC (Rd rfl (Rm rfl ?_))));clear H iF;intro a H;refine aC ?_;refine dx (k+1) (by exact (H.dX (Pl:=[_,_,_,_]) (dN:=[_,_,_]) [1,2,3] (by decide) rfl).sub ⟨rfl,rfl,rfl,rfl,aL⟩) ?_
  omega
 intro nV a H
 try have p28:=dF nV
 obtain rfl:k=h.marks.layers.length:=by omega
 rw [vJ] at H;refine jI ?_;refine (leave0 H results87 ?_).2;exact H.hp.kZ (L':=Cb b3 bm _) (by repeat (first|exact kF _|apply List.Sublist.cons)) rfl
def JD (d:fT):List Int:=(jS d.flow).flatMap refs++refs d.fin
def kS (d:fT):List Int:=(sK [] (JD d)).filter fun q=>decide (q≠0)
theorem apU {G:GH} {b3 bm:Nat} {hs:List dP}:Xr prog (.func (.func 87) #[] #[(aM b3 0)]) G (hs.map FV) fun k _ L=>L=Cb b3 bm (sK [] ((hs.take k).flatMap refs)):=by
 rintro k args G1 L w ⟨p,hp,h⟩ hG rfl hO;rw [sM] at hp;obtain ⟨x,hx,rfl⟩:=qF.1 hp;obtain ⟨q1,q2,q3,rfl,hR⟩:=h;obtain ⟨hk,rfl⟩:=jO.1 hx;refine jo (caps:=[(aM b3 0)]) ZE ((acO G1 w b3 bm _ hs[k] q1 q2 q3 hR hO).mono ?_);rintro e w' ⟨v,G',L',rfl,hc,rfl⟩;exact ⟨v,G',_,rfl,hc,by show Cb b3 bm _=Cb b3 bm (sK [] ((hs.take (k+1)).flatMap refs));rw [fV hk,List.flatMap_append,NA];simp⟩
theorem Y4 (G:GH) (w0:World) (hG:Hold G w0) (D:iE) (d:fT) (hR:jN G D d) (hz:cu d.flow≤4294967296) (hw:∀ k∈kS d,-9223372036854775808≤k∧k < 9223372036854775808) (hl:(kS d).length≤4294967296) :
  Calls prog 38 #[D.val] w0 (bB w0 G fun u G'=>au G' (.sl 1 ((yB (kS d)).map fun k=>[li k])) u):=by
 refine eN [(0,_)] func38 rfl ntmps38 rfl rfl hG ?_;intro a H;refine fK (fun _ K1=>?_);refine dW (cs:=[_,_,_,_,_,_,_,_,_,_,_]) H wn rfl rfl rfl ?_;clear H;intro b1 a w hb1 H;refine kH H (aF K1 rfl (SQ fun _ K2=>?_));clear H K1;intro a H;obtain ⟨Ga,hma,hb1',HQ⟩:=H.eB;clear H;have H:=HQ;clear HQ;have hga:=fun j v hj=>nN hb1' 0 D.cells rfl j v hj
 have hgd:∀ j v,[aQ D.p,vi d.fin.marks.ins,vi d.fin.marks.move,aQ D.d,aQ D.y][j]?=some v→aH Ga b1 (1+j)=some v:=fun j v hj=>by rw [← hR.ins,← hR.mv] at hj;exact nN hb1' 1 [aQ D.p,vi D.ins,vi D.move,aQ D.d,aQ D.y] rfl j v hj
 replace hR:=hR.mono hma;refine tO ?_;refine He H wn rfl ?_;clear H;intro b5 a w hb5 H;refine dJ yD H wn rfl ?_;clear H;intro b3 a w hb3 H;refine aY yD 0 (vs:=[_]) _ H wn rfl rfl rfl rfl rfl rfl rfl rfl ?_;clear H;intro w H;dsimp only [List.set,setRow] at H;refine aC ?_;refine K2 _ _ ?_;clear K2;refine fK (fun _ K3=>?_);refine qy H wn rfl rfl ?_;clear H;intro a H;refine kH H (aF K3 rfl (SR fun _ K4=>Rf vO rfl (Rg lS rfl (hga 0 _ rfl) (Rm rfl ?_))));clear H K3;intro a H;refine gK SY (Li:=[]) (L:=Cb b3 b5 []) H wn rfl (aaE 4294967297 (by omega) _ Ga ((jS d.flow).map FV) (fun k _ L=>L=Cb b3 b5 (sK [] (((jS d.flow).take k).flatMap refs))) Ga _ _ 0 d.flow _ (fun _ _ h=>h) apU (fun _ _ _ _ _ h=>h) rfl (Hp.owns (Li:=[]) H.hp) hR.fl (by omega) (fun i a h=>by rw [gD,sM,h];rfl)) rfl ?_;clear H;rintro v10 zD L10 a w rfl yS H;rw [gD,vJ] at H;dsimp only [List.nil_append] at H;refine K4 _ _ ?_;clear K4;refine kP H (SR fun _ K5=>Rm rfl (Rf Bq rfl ?_));clear H;intro a H;refine aR dB (cs:=[aQ D.p,vi d.fin.marks.ins,vi d.fin.marks.move,aQ D.d,aQ D.y]) H wn rfl rfl (fun j v hj=>H.hp.aH (aG yS (hgd j v hj))) rfl ?_;clear H;intro a H;refine Dq (Li:=[]) (L:=Cb b3 b5 _) H wn rfl rfl (jo (caps:=[(aM b3 0)]) ZE (acO _ _ b3 b5 _ d.fin D.p D.d D.y (hR.hd.mono yS) (Hp.owns (Li:=[]) H.hp))) rfl ?_;clear H;rintro v14 AJ L14 a w rfl xS H;rw [← NA] at H;dsimp only [List.nil_append] at H;refine K5 _ _ ?_;clear K5;refine kP H (SR fun _ K6=>Ro yD 0 rfl ?_);clear H;intro a H;refine arT (i:=1) wG lq (XZ List.nodup_nil) H wn rfl rfl rfl ?_;clear H;intro es clock w hst hks H;dsimp only [List.set] at H;refine K6 _ _ ?_;clear K6;refine kP H (SR fun _ K7=>Ro yD 0 rfl ?_);clear H;intro a H;refine s_call akb H wn rfl (apw _ _ H.ro _) rfl ?_;clear H;rintro v17 yG a w ⟨bx,rfl,hbx⟩ sW H;refine s_call ajZ H wn rfl (atf _ _ H.ro b5 bx clock es (kS d) hbx (H.hp.own (b5,.map es clock) (by simp)) hst hks hw hl) rfl ?_;clear H;rintro v18 Xx a w Pq hm18 H;exact kH H (aF K7 rfl (LR results38 rfl fun H=>H.rt Pq))
theorem adb (G:GH) (w0:World) (hG:Hold G w0) (D:iE) (d:fT) (hR:jN G D d) (hz:cu d.flow≤4294967296) (hw:∀ k∈kS d,-9223372036854775808≤k∧k < 9223372036854775808) (hl:(kS d).length≤4294967296) :
  Calls prog 20 #[D.val] w0 (bB w0 G fun u G'=>u=.bool (decide ((kS d).length=0))):=by
 refine eN [(0,_)] func20 rfl ntmps20 rfl rfl hG ?_;intro a H;refine fK (fun _ K1=>?_);refine dW (cs:=[_,_,_,_,_,_,_,_,_,_,_]) H wn rfl rfl rfl ?_;clear H;intro b1 a w hb1 H;refine kH H (aF K1 rfl (SR fun _ K2=>?_));clear H K1;intro a H;refine aR gV (cs:=[_,_,_,_,_,_,_,_,_,_,_]) H wn rfl rfl (H.hp.bT 0 rfl rfl) rfl ?_;clear H;intro a H;refine s_call Zx H wn rfl (Y4 _ _ H.ro D d hR hz hw hl) rfl ?_;clear H;rintro v4 G4 a w hv4 Je H;obtain ⟨A,n,c,rfl⟩:=hv4.form;have hn:=hv4.len;rw [bO,yB,List.length_mergeSort] at hn;subst hn;exact kH H (Rl sJ rfl (Rc rfl (aF K2 rfl (LR results20 rfl fun H=>H.rt (dG (decide_eq_decide.2 (by omega)))))))
theorem UK {C:bC} {e:Int} {h:dP} (hE:gN C e h=0):∀ q∈refs h,q=0∨q∈C.iV:=by
 have z:=kG hE;have h3:=z (jJ C h.marks) (by simp);have h4:=z (kr (sQ C h.marks.bH) h.marks.bH.length) (by simp);have h6:=z (kr (xk C e h.marks.layers) h.marks.layers.length) (by simp);intro q hq
 unfold refs at hq
 rcases iX.1 hq with rfl|hq
 ·unfold jJ at h3
  by_cases h0:h.marks.ins=0
  ·exact .inl h0
  refine .inr (Classical.byContradiction fun hn=>?_);rw [ak ⟨h0,hn⟩] at h3;cases h3
 rcases mJ.1 hq with hq|hq
 ·obtain ⟨x,hx,rfl⟩:=List.mem_map.1 hq;obtain ⟨k,hk,rfl⟩:=List.getElem_of_mem hx;have h5:=Bf h4 k hk
  unfold sQ at h5
  rw [dZ hk] at h5;dsimp only [tV] at h5;refine .inr (Classical.byContradiction fun hn=>?_);rw [ak hn] at h5;cases h5
 obtain ⟨x,hx,rfl⟩:=List.mem_map.1 hq;obtain ⟨k,hk,rfl⟩:=List.getElem_of_mem hx;have h5:=Bf h6 k hk
 unfold xk at h5
 rw [dZ hk] at h5;dsimp only [wo] at h5;refine .inr (Classical.byContradiction fun hn=>?_);rw [ak hn] at h5;cases h5
def pQ (C:bC) (L:List dP):Prop:=∀ h∈L,∃ e,gN C e h=0
theorem pQ.nil (C:bC):pQ C []:=fun _ h=>by cases h
theorem pQ.cons {C:bC} {e:Int} {h:dP} {L:List dP} (h1:gN C e h=0) (h2:pQ C L):pQ C (h :: L):=fun x hx=>by
 rcases iX.1 hx with rfl|hx
 ·exact ⟨e,h1⟩
 exact h2 x hx
theorem pQ.app {C:bC} {A B:List dP} (h1:pQ C A) (h2:pQ C B):pQ C (A++B):=fun x hx=>(mJ.1 hx).elim (h1 x) (h2 x)
mutual
theorem anF (C:bC) (body note:Bool) (t:Int):∀ (x:ay) (s s':CS),fD C body note t x s=(0,s')→pQ C (zT x)
 | .mk k c i tx h f r,s,s',e=>by
  have hf:=Pg C false true t f;have hr:=abe C note (t+1) r;rw [fD] at e;(iterate 2 obtain ⟨-,e⟩:=mV e);obtain ⟨e1,e⟩:=mV e;rw [zT];refine pQ.cons e1 ?_
  by_cases h6:k=6
  ·rw [ak h6] at e ⊢;rw [ah (show ¬ k=7 by omega),fZ];exact hf _ _ e
  rw [ah h6] at e ⊢;rw [oL]
  by_cases h7:k=7
  ·rw [ak h7] at e ⊢;exact hr _ _ (Wo e).2
  rw [ah h7];exact pQ.nil C
theorem Pg (C:bC) (body note:Bool) (t:Int):∀ (l:List ay) (s s':CS),jE C body note t l s=(0,s')→pQ C (jS l)
 | [],_,_,_=>by rw [jS];exact pQ.nil C
 | x :: r,s,s',e=>by
  rw [jE] at e;obtain ⟨e1,e⟩:=mV e;rw [jS];exact (anF C body note t x s _ (Prod.ext e1 rfl)).app (Pg C body note t r _ _ e)
theorem anG (C:bC) (note:Bool) (t:Int):∀ (x:aU) (s s':CS),ze C note t x s=(0,s')→pQ C (Er x)
 | .mk h cs,s,s',e=>by
  have hc:=abd C note t cs;rw [ze] at e;obtain ⟨e1,e⟩:=mV e;rw [Er];exact pQ.cons (kG e1 _ eX) (hc _ _ e)
theorem abe (C:bC) (note:Bool) (t:Int):∀ (l:List aU) (s s':CS),iN C note t l s=(0,s')→pQ C (oN l)
 | [],_,_,_=>by rw [oN];exact pQ.nil C
 | x :: r,s,s',e=>by
  rw [iN] at e;obtain ⟨e1,e⟩:=mV e;rw [oN];exact (anG C note t x s _ (Prod.ext e1 rfl)).app (abe C note t r _ _ e)
theorem anE (C:bC) (note:Bool) (t:Int):∀ (x:aZ) (s s':CS),cellC C note t x s=(0,s')→pQ C (Eo x)
 | .mk i h f,s,s',e=>by
  have hf:=Pg C false note t f;rw [cellC] at e;obtain ⟨-,e⟩:=mV e;obtain ⟨e1,e⟩:=mV e;rw [Eo];exact pQ.cons e1 (hf _ _ e)
theorem abd (C:bC) (note:Bool) (t:Int):∀ (l:List aZ) (s s':CS),qG C note t l s=(0,s')→pQ C (qh l)
 | [],_,_,_=>by rw [qh];exact pQ.nil C
 | x :: r,s,s',e=>by
  rw [qG] at e;obtain ⟨e1,e⟩:=mV e;rw [qh];exact (anE C note t x s _ (Prod.ext e1 rfl)).app (abd C note t r _ _ e)
end
theorem Qd {d:fT} (hc:iy d=0):∀ q∈JD d,q=0∨q∈d.revs.map bL.id:=by
 have z:=kG hc;have h2:=z (dY [gN d.ku 3 d.fin,dh (sj d.fin.marks) 21]) (by simp);have h3:=z (jE d.ku true false 0 d.flow ⟨0,[]⟩).1 (by simp);have hi:=Pg d.ku true false 0 d.flow _ _ (Sb h3);intro q hq
 unfold JD at hq
 rcases mJ.1 hq with hq|hq
 ·obtain ⟨h,hh,hq⟩:=List.mem_flatMap.1 hq;obtain ⟨e,he⟩:=hi h hh;exact UK he q hq
 exact UK (kG h2 _ eX) q hq
theorem Wn {d:fT} (hc:iy d=0):(d.revs.map bL.id).Pairwise (· < ·)∧∀ q∈d.revs.map bL.id,1≤q∧q≤1073741824:=by
 have h:=kG (kG hc _ eX) (Cv d.revs) (by simp);have h1:=kG h _ (eX);have h2:=kG h _ (fJ _ eX)
 have hl:d.revs.length≤256:=by
  unfold dh at h1
  by_cases hd:256 < (d.revs.length:Int)
  ·rw [ak (aI hd)] at h1;cases h1
  omega
 have hi:∀ i (hi:i < d.revs.length),1≤d.revs[i].id∧d.revs[i].id≤1073741824∧(∀ k (hk:k < d.revs.length),k+1=i→d.revs[k].id < d.revs[i].id):=by
  intro i hi;have h3:=Bf h2 i (by omega)
  unfold BQ at h3
  rw [dZ hi] at h3;have h4:=Mi (kG h3 _ eX);rw [dZ hi] at h4;refine ⟨h4.1,h4.2.1,fun k hk e=>?_⟩;subst e;have h5:=h4.2.2 (by omega);rw [Nat.add_sub_cancel,dZ hk] at h5;exact h5
 refine ⟨List.pairwise_iff_getElem.2 ?_,fun q hq=>?_⟩
 ·intro i j hi' hj hij;rw [bO] at hi' hj;rw [List.getElem_map,List.getElem_map]
  induction j with
  | zero=>omega
  | succ j ih =>
   have h1:=(hi (j+1) hj).2.2 j (by omega) rfl
   by_cases e:i=j
   ·subst e;exact h1
   exact Int.lt_trans (ih (by omega) (by omega) (by omega)) h1
 obtain ⟨x,hx,rfl⟩:=List.mem_map.1 hq;obtain ⟨k,hk,rfl⟩:=List.getElem_of_mem hx;exact ⟨(hi k hk).1,(hi k hk).2.1⟩
theorem atQ {d:fT} (hc:iy d=0) {q:Int} (h:q∈kS d):1≤q∧q≤1073741824:=by
 unfold kS at h
 rw [List.mem_filter,lF,NC] at h;obtain ⟨h1|h1,h2⟩:=h
 ·cases h1
 exact (Wn hc).2 q ((Qd hc q h1).resolve_left h2)
theorem atP {d:fT} (hc:iy d=0):(kS d).length≤d.revs.length:=by
 obtain ⟨hi,-⟩:=Wn hc
 have hnd:(d.revs.map bL.id).Nodup:=hi.imp fun h=>by omega
 have hu:(kS d).Nodup:=(XZ List.nodup_nil).sublist List.filter_sublist
 have hp:=(List.perm_ext_iff_of_nodup (hnd.sublist (List.filter_sublist (p:=fun q=>decide (q∈kS d)))) hu).2 fun q=>by
  rw [List.mem_filter,lF];refine ⟨fun h=>h.2,fun h=>⟨?_,h⟩⟩;have h1:=h
  unfold kS at h1
  rw [List.mem_filter,lF,NC] at h1;obtain ⟨h2|h2,h3⟩:=h1
  ·cases h2
  exact (Qd hc q h2).resolve_left h3
 rw [← hp.length_eq];exact Nat.le_trans (List.length_filter_le _ _) (by rw [bO];exact bR _)
theorem ahP:∀ args w,(callFunc 113 args).run prog w=.ok (.enter 113 args) w:=enters func113 rfl (by kernel_rfl)
theorem ME (G:GH) (x:bL):aV G x.dat x.cells:=by
 simp only [bL.dat,bL.cells,aV]
 exact ⟨_,_,rfl,by simp [au,Value.oneCell'],_,_,rfl,by simp [au,Value.oneCell'],_,_,rfl,by simp [au,Value.oneCell'],rfl⟩
def oF (l:List bL):List aj:=(l.map bL.cells).flatten
theorem Qp:∀ l:List bL,(oF l).length=l.length*3
 | []=>rfl
 | p :: l=>by
  have:=Qp l
  simp only [oF,fG,List.flatten_cons,iM] at this ⊢
  rw [this,show p.cells.length=3 from rfl,kU];omega
theorem Wx:∀ {l:List bL} {k:Nat} (h:k < l.length) (j:Nat),j < 3→(oF l)[k*3+j]?=l[k].cells[j]?
 | p :: l,0,_,j,hj=>by
  simp only [oF,fG,List.flatten_cons,Nat.zero_mul,gD,List.getElem_cons_zero]
  rw [yO (by rw [show p.cells.length=3 from rfl];exact hj)]
 | p :: l,k+1,h,j,hj=>by
  have ih:=Wx (l:=l) (k:=k) (by simpa using h) j hj
  simp only [oF,fG,List.flatten_cons,List.getElem_cons_succ] at ih ⊢
  rw [tN (by rw [show p.cells.length=3 from rfl];omega),show p.cells.length=3 from rfl,show (k+1)*3+j - 3=k*3+j by omega];exact ih
theorem Ww (l m:List bL):oF (l++m)=oF l++oF m:=by simp [oF]
theorem aro {w0 w:World} {F:Nat→Prop} {G0 G:GH} {L Lo:OL} {e c n:Nat} {A:Option Addr} {l:List bL} (h:bX e 3 (.slice A n c) n (oF l) Lo) (hn:n=l.length) (H:Hp w0 F G0 G L w) (hsub:∀ x∈Lo,x∈L) {k:Nat} (hk:k < l.length) :
  ∃ b,A=some ⟨b,0,none⟩∧∀ j u,[vi l[k].id,.string l[k].author,vi l[k].time][j]?=some u→w.cell? ⟨b,0+k*3+j,none⟩=some u:=by
 rcases h.2 with ⟨_,h0,_⟩|⟨b,cap,cur,he,hl,h1,h2,h3,h4⟩
 ·omega
 injection he with e1 e2 e3
 refine ⟨b,e1,fun j u hu=>?_⟩
 have hj:j < 3:=by have:=(jO.1 hu).1;simpa using this
 refine H.xY (c:=cur) (e:=e) (fz:=(0,0)) (hsub _ (by rw [hl];exact List.mem_singleton_self _)) ?_;have h5:=Wx hk j hj;rw [← h4,tK,ak (by omega),Array.getElem?_toList] at h5;rw [show 0+k*3+j=k*3+j by omega,h5];exact hu
theorem aoK {G:GH} {w0:World} {Lo:OL} {v fv:aj} (l:List bL) (p:bL→Bool) (hO:gG G Lo w0) (hrw:bX 102 3 v l.length (oF l) Lo) (hf:∀ x∈l,tH fv G x.dat (p x)) :
  Calls prog 113 #[v,fv] w0 (fP w0 G Lo fun u G' L'=>L'=Lo∧u=vi (oC (l.findIdx? p))):=by
 obtain ⟨A,c,rfl,hc1,hc2⟩:=hrw.shape;have hml:maxLen=9223372036854775807:=rfl;refine jr (N:=19) (T:=[(0,_),(1,_)]) func113 rfl ntmps113 rfl rfl hO ?_;intro a H;refine kP H (SR fun _ K1=>aF K1 rfl (SQ fun _ K2=>SR fun _ K3=>Rm rfl (Rl nQ rfl (Rm rfl (Kz K3 (SB ?_))))));clear H K1 K3;intro a H;skip;refine eH (ι:=Nat × GH) (Tc:=[(0,_),(1,_),(7,_)]) (Lc:=[]) (fun gh=>[(8,vi gh.1)]) (fun gh=>[]++Lo) (fun gh=>gh.2) (fun gh=>gh.1≤l.length∧(l.take gh.1).findIdx? p=none∧(∀ b o,G b=some o→gh.2 b=some o)) (fun gh=>l.length - gh.1) ((0,G)) (by exact (H).sub ⟨rfl,rfl,rfl,rfl,aL⟩) ?_ ?_
 ·exact ⟨by omega,rfl,fun _ _ h=>h⟩
 clear H;rintro ⟨k,g⟩ a w hI H;dsimp only at hI H;obtain ⟨hk,hno,hgm⟩:=hI;dsimp only [lca,bK] at H;refine kP H (SR fun _ K4=>Rc rfl (Kz K4 (SQ fun _ K5=>Cd rfl ?_ ?_))) <;> clear H K4
 ·intro h9 a H
  try have p9:=dT h9
  have hk2:k < l.length:=by omega
  obtain ⟨b,rfl,hrow⟩:=aro hrw rfl H.hp (fun x hx=>by first|exact hx|exact fJ _ hx|simpa using hx) hk2;refine kP H (Kc K5 (SQ fun _ K6=>SB (SR fun _ K7=>Rm rfl (aF K7 rfl (SR fun _ K8=>Rm rfl (Rm rfl (Rm rfl (Ri nQ mP rfl rfl ?_))))))));clear H K5 K7;intro a H;refine aR mP (cs:=[vi l[k].id,.string l[k].author,vi l[k].time]) H wn rfl rfl hrow rfl ?_;clear H;intro a H;refine jF H wn rfl rfl (hf _ (lH hk2) _ _ _ hgm H.ro (ME _ l[k])) rfl ?_;clear H;rintro v16 qC a w rfl jW H;refine K8 _ _ ?_;clear K8;refine mW H rfl ?_ ?_
  ·intro h16
   try have p16:=dT h16
   refine kP H (SR fun _ K9=>Rm rfl (aF K9 rfl ?_));clear H K9;intro a H;refine lr H results113 rfl ?_
   first
    | exact H.hp.dM ⟨rfl,by rw [wm hk2 hno h16];rfl⟩
    | exact H.hp.dM ⟨rfl,by rw [show l.take k=l from gu (by omega)] at hno;rw [hno];rfl⟩
  intro h16
  try have p16:=dF h16
  refine kP H (Kc K6 (SC (Rd rfl (Rm rfl ?_))));clear H K6;intro a H;refine aC ?_;refine dx ((k+1,qC)) (by exact (H).sub ⟨rfl,rfl,rfl,rfl,aL⟩) ?_
  (try dsimp only);exact ⟨by omega,EG hk2 hno h16,fun b o h=>jW b o (hgm b o h)⟩
 intro h9 a H
 try have p9:=dF h9
 refine jI ?_;refine K2 _ _ ?_;clear K2;refine kP H (SR fun _ eU=>aF eU rfl ?_);clear H eU;intro a H;refine lr H results113 rfl ?_
 first
  | exact H.hp.dM ⟨rfl,by rw [wm hk2 hno h16];rfl⟩
  | exact H.hp.dM ⟨rfl,by rw [show l.take k=l from gu (by omega)] at hno;rw [hno];rfl⟩
theorem aqZ {G:GH} {l:List bL} {xs:List aj} (h:bV G 3 (l.map bL.dat) xs):xs=oF l:=by
 obtain ⟨css,rfl,h2,h3⟩:=h;rw [bO] at h2
 have e:css=l.map bL.cells:=by
  apply List.ext_getElem?
  intro j;rw [sM]
  by_cases hj:j < l.length
  ·have h4:=(h3 j l[j].dat css[j] (by simp [hj]) (dZ (by omega))).1;rw [dZ hj,dZ (by omega),JG h4];rfl
  rw [List.getElem?_eq_none (by omega),List.getElem?_eq_none (by omega)];rfl
 rw [e];rfl
theorem aqP {l:List bL} {p:bL→Bool} {i:Nat} (h:l.findIdx? p=some i):∃ hi:i < l.length,(l.take (i+1)).filter (fun x=>!p x)=l.take i:=by
 obtain ⟨hi,h1,h2⟩:=List.findIdx?_eq_some_iff_getElem.1 h;refine ⟨hi,?_⟩;rw [fV hi,List.filter_append,List.filter_eq_self.2]
 ·simp [h1]
 intro x hx;obtain ⟨j,hj,rfl⟩:=List.getElem_of_mem hx;rw [List.getElem_take]
 have hj2:j < i:=by rw [List.length_take] at hj;omega
 have:=h2 j hj2
 simpa using this
theorem aqQ {l:List bL} {p:bL→Bool} (h:l.findIdx? p=none):l.filter (fun x=>!p x)=l:=by
 rw [List.findIdx?_eq_none_iff] at h
 exact List.filter_eq_self.2 fun x hx=>by rw [h x hx];rfl
theorem aqR {cl:List aj} {i:Nat} {x y z:aj} (h:i*3+3≤cl.length):(setRow cl (0+i*3) [x,y,z]).length=cl.length∧(setRow cl (0+i*3) [x,y,z]).take ((i+1)*3)=cl.take (i*3)++[x,y,z]∧∀ m,(i+1)*3≤m→(setRow cl (0+i*3) [x,y,z])[m]?=cl[m]?:=by
 have e:setRow cl (0+i*3) [x,y,z]=cl.take (i*3)++[x,y,z]++cl.drop (i*3+3):=by
  rw [gD,Qx _ _ _ (by simpa using h)];rfl
 have hl:(cl.take (i*3)++[x,y,z]).length=(i+1)*3:=by rw [iM,List.length_take];simp;omega
 refine ⟨WH ..,?_,fun m hm=>?_⟩
 ·rw [e,← hl,List.take_left]
 rw [e,tN (by omega),hl,List.getElem?_drop];congr 1;omega
theorem aqO {l:List bL} {cl:List aj} {i:Nat} (hi:i < l.length) (h:cl.take (l.length*3)=oF l):cl.take (i*3)=oF (l.take i):=by
 have e:cl.take (i*3)=(cl.take (l.length*3)).take (i*3):=by rw [List.take_take,Nat.min_eq_left (by omega)]
 have h2:oF l=oF (l.take i)++oF (l.drop i):=by rw [← Ww,List.take_append_drop]
 have h3:(oF (l.take i)).length=i*3:=by rw [Qp,List.length_take];omega
 rw [e,h,h2,← h3,List.take_left]
theorem aqS {l:List bL} {p:bL→Bool} {j:Nat} (hj:j < l.length):(l.take (j+1)).filter (fun x=>!p x)=(l.take j).filter (fun x=>!p x)++if p l[j] then [] else [l[j]]:=by
 rw [fV hj,List.filter_append]
 cases h:p l[j] <;> simp [h]
theorem ahv {G:GH} {w0:World} {Lo:OL} {v fv:aj} (l:List bL) (p:bL→Bool) (hO:gG G Lo w0) (hrw:bX 102 3 v l.length (oF l) Lo) (hf:∀ x∈l,tH fv G x.dat (p x)) :
  Calls prog 59 #[v,fv] w0 (fP w0 G Lo fun u G' L'=>bX 102 3 u (l.filter fun x=>!p x).length (oF (l.filter fun x=>!p x)) L'):=by
 obtain ⟨A,c,rfl,hc1,hc2⟩:=hrw.shape;have hml:maxLen=9223372036854775807:=rfl;have hdl:=Qp l;refine jr (N:=42) (T:=[(0,_),(1,_)]) func59 rfl ntmps59 rfl rfl hO ?_;intro a H;refine kP H (SR fun _ K1=>aF K1 rfl (SR fun _ K2=>Rm rfl (Rm rfl ?_)));clear H K1;intro a H;refine gK ahP (Li:=[]) (L:=Lo) H wn rfl (aoK l p (Hp.owns (Li:=[]) H.hp) hrw hf) rfl ?_;clear H;rintro v10 zD L10 a w ⟨rfl,rfl⟩ yS H;dsimp only [List.nil_append] at H;obtain ⟨o,ho⟩:∃ o,o=l.findIdx? p:=⟨_,rfl⟩;rw [← ho] at H;refine kH H (aF K2 rfl (SQ fun _ K3=>SR fun _ K4=>Rm rfl (Rc rfl (Kz K4 (Cd rfl ?_ ?_))))) <;> clear H K2 K4
 ·intro h12 a H
  try have qo:=dT h12
  obtain rfl:o=none:=by cases o with|none=>rfl|some i=>first|(simp [oC] at qo;done)|(simp [oC] at qo;omega)
  exact kP H (SR fun _ K5=>Rm rfl (aF K5 rfl (LR results59 rfl fun H=>H.hp.dM (by rw [aqQ ho.symm];exact hrw))))
 intro h12 a H
 try have qo:=dF h12
 obtain ⟨i0,rfl⟩:∃ i,o=some i:=by cases o with|none=>simp [oC] at qo|some i=>exact ⟨i,rfl⟩
 obtain ⟨hi0,hinit⟩:=aqP ho.symm
 rcases hrw.2 with ⟨_,h0,_⟩|⟨b,cap,cur,he,rfl,hcap1,hcap2,hsz,htk⟩
 ·omega
 injection he with e1 e2 e3
 subst e1;subst e3;obtain ⟨cl0,rfl⟩:∃ cl:List aj,cur=cl.toArray:=⟨cur.toList,by simp⟩;rw [List.size_toArray] at hsz;dsimp only [oC] at H;refine kP H (Kc K3 (SQ fun _ K6=>SR fun _ K7=>Rm rfl (Rd rfl (aF K7 rfl (SB ?_)))));clear H K3 K7;intro a H;skip;refine eH (ι:=Nat × Nat × List aj × GH) (Tc:=[(0,_),(1,_)]) (Lc:=[]) (fun gh=>[(5,vi gh.2.1),(6,vi gh.1)]) (fun gh=>[(b,.cells gh.2.2.1.toArray 102 (0,0))]) (fun gh=>gh.2.2.2) (fun gh=>gh.2.1 < gh.1∧gh.1≤l.length∧gh.2.2.1.length=c*3∧gh.2.1=((l.take gh.1).filter fun x=>!p x).length∧gh.2.2.1.take (gh.2.1*3)=oF ((l.take gh.1).filter fun x=>!p x)∧(∀ m,gh.1*3≤m→m < l.length*3→gh.2.2.1[m]?=(oF l)[m]?)∧(∀ b o,G b=some o→gh.2.2.2 b=some o)) (fun gh=>l.length - gh.1) ((i0+1,i0,cl0,zD)) (by exact (H).sub ⟨rfl,rfl,rfl,rfl,aL⟩) ?_ ?_
 ·exact ⟨Nat.lt_succ_self _,hi0,hsz,by rw [hinit,List.length_take];exact (Nat.min_eq_left (Nat.le_of_lt hi0)).symm,by rw [hinit];exact aqO hi0 htk,fun m h1 h2=>by rw [← htk,tK,ak h2],yS⟩
 clear H;rintro ⟨j,i,cl,g⟩ a w hI H;dsimp only at hI H;obtain ⟨hij,hj,hcl,hil,hkept,hrest,hgm⟩:=hI;dsimp only [lca,bK] at H;refine kP H (SQ fun _ K8=>SR fun _ K9=>Rm rfl (Rm rfl (Rl nQ rfl (Rc rfl (Kz K9 (Cd rfl ?_ ?_)))))) <;> clear H K9
 ·intro h19 a H
  try have uq:=dT h19
  have hj2:j < l.length:=by omega
  have hjc:∀ q u,[vi l[j].id,.string l[j].author,vi l[j].time][q]?=some u→cl.toArray[0+j*3+q]?=some u:=fun q u hq=>by
   have hq2:q < 3:=by have:=(jO.1 hq).1;simpa using this
   rw [List.getElem?_toArray,gD,hrest _ (by omega) (by omega),Wx hj2 q hq2];exact hq
  have hdt:=aqS (p:=p) hj2;refine kP H (Kc K8 (SQ fun _ eU=>SB (SR fun _ fQ=>Rm rfl (Rm rfl (Ri nQ mP rfl rfl ?_)))));clear H K8;intro a H;refine aR mP (cs:=[vi l[j].id,.string l[j].author,vi l[j].time]) H wn rfl rfl (fun q u hq=>H.hp.xY (c:=cl.toArray) eX (hjc q u hq)) rfl ?_;clear H;intro a H;refine dJ mP H wn rfl ?_;clear H;intro b7 a w wT H;refine aY mP 0 (vs:=[_,_,_]) _ H wn rfl rfl rfl rfl rfl rfl rfl rfl ?_;clear H;intro w H;dsimp only [List.set,setRow] at H;refine fQ _ _ ?_;clear fQ;refine kP H (SR fun _ iF=>Rm rfl ?_);clear H;intro a H;refine aR mP (cs:=[_,_,_]) H wn rfl rfl (H.hp.bT 0 rfl rfl) rfl ?_;clear H;intro a H;refine jF H wn rfl rfl (hf _ (lH hj2) _ _ _ hgm H.ro (ME _ l[j])) rfl ?_;clear H;rintro v28 Q6 a w rfl aaQ H;refine kH H (Rn rfl (Kz iF (Cd rfl ?_ ?_))) <;> clear H iF
  ·intro qg a H
   try have p29:=dT qg
   rw [ah (by simpa using qg)] at hdt;have hds:=aqR (cl:=cl) (i:=i) (x:=vi l[j].id) (y:=.string l[j].author) (z:=vi l[j].time) (by omega);refine kP H (SR fun _ jd=>Rm rfl (Rm rfl ?_));clear H;intro a H;refine aR mP (cs:=[_,_,_]) H wn rfl rfl (H.hp.bT 0 rfl rfl) rfl ?_;clear H;intro a H;refine kH H (Ri nQ mP rfl rfl ?_);clear H;intro a H;refine aY mP 1 (c:=cl) (vs:=[vi l[j].id,.string l[j].author,vi l[j].time]) _ H wn rfl rfl rfl rfl rfl rfl (Nat.ble_eq_true_of_le (by simp only [kU,List.length_nil];omega)) rfl ?_;clear H;intro w H;dsimp only [List.set] at H;refine jd _ _ ?_;clear jd;refine kP H (SC (Rm rfl (Rd rfl (gY eU rfl (SC (Rm rfl (Rd rfl (Ra rfl ?_))))))));clear H eU;intro a H;refine aC ?_;refine dx ((j+1,i+1,setRow cl (0+i*3) [vi l[j].id,.string l[j].author,vi l[j].time],Q6)) (by exact (H.dX (Pl:=[_,_]) (dN:=[_]) [1] (by decide) rfl).sub ⟨rfl,rfl,rfl,rfl,aL⟩) ?_
   (try dsimp only);exact ⟨by omega,by omega,by rw [hds.1,hcl],by rw [hdt,iM,← hil];rfl,by rw [hdt,Ww,← hkept,hds.2.1];rfl,fun m h1 h2=>by rw [hds.2.2 m (by omega),hrest m (by omega) h2],fun b o h=>aaQ b o (hgm b o h)⟩
  intro qg a H
  try have p29:=dF qg
  rw [ak (by simpa using qg),fZ] at hdt;refine kP H (Kc eU (SC (Rm rfl (Rd rfl (Ra rfl ?_)))));clear H eU;intro a H;refine aC ?_;refine dx ((j+1,i,cl,Q6)) (by exact (H.dX (Pl:=[_,_]) (dN:=[_]) [1] (by decide) rfl).sub ⟨rfl,rfl,rfl,rfl,aL⟩) ?_
  (try dsimp only);exact ⟨by omega,by omega,hcl,by rw [hdt];exact hil,by rw [hdt];exact hkept,fun m h1 h2=>hrest m (by omega) h2,fun b o h=>aaQ b o (hgm b o h)⟩
 intro h19 a H
 try have uq:=dF h19
 refine jI ?_;refine K6 _ _ ?_;clear K6;refine kP H (SR fun _ iW=>Rm rfl (Rm rfl ?_));clear H;intro a H;refine zl nQ mP i H wn rfl rfl rfl (by omega) rfl ?_;clear H;intro a H;rw [ah (by omega),vE,add_lit] at H;refine adM nQ mP rfl rfl 0 H wn rfl rfl (by omega) (by omega) ?_;clear H;intro cz w hz1 hz2 H;dsimp only [List.set] at H;refine iW _ _ ?_;clear iW;refine kP H (SR fun _ mq=>Rm rfl (Rm rfl ?_));clear H;intro a H;refine ET nQ mP i H wn rfl rfl rfl (by omega) rfl ?_;clear H;intro a H;refine kH H (aF mq rfl ?_);clear H mq;intro a H;refine lr H results59 rfl ?_
 obtain rfl:j=l.length:=by omega
 rw [vJ] at hil hkept;exact H.hp.dM ⟨Qp _,.inr ⟨b,c,cz.toArray,by rw [← hil],rfl,by omega,hcap2,by rw [List.size_toArray,hz1,hcl],by rw [← hkept,← hil];rw [gD] at hz2;exact hz2⟩⟩
theorem Yv (G:GH) (w0:World) (hO:gG G [] w0) (rows:List (List Dat)) (A:Option Addr) (n c:Nat) (hv:au G (.sl 3 rows) (.slice A n c)) (hz:rows.length≤4294967296) :
  Calls prog 60 #[.slice A n c] w0 (fP w0 G [] fun u G' L'=>∃ xs,bX 102 3 u rows.length xs L'∧bV G' 3 rows xs):=by
 obtain ⟨hn,hc1,hc2,hnil,hx⟩:=hv.cells;refine jr (N:=8) (T:=[(0,_)]) func60 rfl ntmps60 rfl rfl hO ?_;intro a H;refine kP H (SR fun _ K1=>aF K1 rfl (SQ fun _ K2=>SR fun _ K3=>Rm rfl ?_));clear H K1;intro a H;refine BX nQ H wn rfl rfl ?_;clear H;intro a H;refine K3 _ _ ?_;clear K3;refine mW H rfl ?_ ?_
 ·intro h4
  refine kP H (SR fun _ K4=>aF K4 rfl ?_);clear H K4;intro a H;refine lr H results60 rfl ?_;have hr0:=hnil (by simpa using h4);subst hr0;exact H.hp.dM ⟨[],bX.nil,bV.nil⟩
 intro h4
 try have p4:=dF h4
 refine iw ?_;refine K2 _ _ ?_;clear K2;refine eY (fun _ K5=>?_)
 have hA:¬ A=none:=by intro e;rw [e] at h4;cases h4
 refine tO ?_;refine BS nQ mP H wn rfl ?_;clear H;intro b5 a w hb5 H;refine kH H (Rm rfl ?_);clear H;intro a H
 by_cases hr0:rows=[]
 ·have hn0:n=0:=by rw [hn,hr0];rfl
  subst hn0;refine BR nQ mP H wn rfl rfl (bR _) rfl ?_;clear H;intro a H;refine kH H (gY K5 rfl ?_);clear H K5;intro a H;refine lr H results60 rfl ?_;subst hr0;exact H.hp.dM ⟨[],bX.empty,bV.nil⟩
 obtain ⟨b,o,xs,rfl,hxl,hxc,hx1,dQ⟩:=hx hr0;refine mI (Li:=[]) (Lo:=[_]) (news:=xs) nQ mP rfl rfl H wn rfl rfl bX.empty hxl (fun j u hj=>H.hp.aH (hxc j u hj)) hx1 (by omega) (by omega) rfl ?_;clear H;intro v7 Lo a w hrow H;dsimp only [List.nil_append] at H;exact kH H (gY K5 rfl (LR results60 rfl fun H=>H.hp.dM ⟨_,by rw [gD,hn] at hrow;exact hrow,dQ⟩))
theorem agZ (G:GH) (w0:World) (hO:gG G [] w0) (rows:List (List Dat)) (A:Option Addr) (n c:Nat) (hv:au G (.sl 6 rows) (.slice A n c)) (hz:rows.length≤4294967296) :
  Calls prog 175 #[.slice A n c] w0 (fP w0 G [] fun u G' L'=>∃ xs,bX 192 6 u rows.length xs L'∧bV G' 6 rows xs):=by
 obtain ⟨hn,hc1,hc2,hnil,hx⟩:=hv.cells;refine jr (N:=8) (T:=[(0,_)]) func175 rfl ntmps175 rfl rfl hO ?_;intro a H;refine kP H (SR fun _ K1=>aF K1 rfl (SQ fun _ K2=>SR fun _ K3=>Rm rfl ?_));clear H K1;intro a H;refine BX sI H wn rfl rfl ?_;clear H;intro a H;refine K3 _ _ ?_;clear K3;refine mW H rfl ?_ ?_
 ·intro h4
  refine kP H (SR fun _ K4=>aF K4 rfl ?_);clear H K4;intro a H;refine lr H results175 rfl ?_;have hr0:=hnil (by simpa using h4);subst hr0;exact H.hp.dM ⟨[],bX.nil,bV.nil⟩
 intro h4
 try have p4:=dF h4
 refine iw ?_;refine K2 _ _ ?_;clear K2;refine eY (fun _ K5=>?_)
 have hA:¬ A=none:=by intro e;rw [e] at h4;cases h4
 refine tO ?_;refine BS sI jK H wn rfl ?_;clear H;intro b5 a w hb5 H;refine kH H (Rm rfl ?_);clear H;intro a H
 by_cases hr0:rows=[]
 ·have hn0:n=0:=by rw [hn,hr0];rfl
  subst hn0;refine BR sI jK H wn rfl rfl (bR _) rfl ?_;clear H;intro a H;refine kH H (gY K5 rfl ?_);clear H K5;intro a H;refine lr H results175 rfl ?_;subst hr0;exact H.hp.dM ⟨[],bX.empty,bV.nil⟩
 obtain ⟨b,o,xs,rfl,hxl,hxc,hx1,dQ⟩:=hx hr0;refine mI (Li:=[]) (Lo:=[_]) (news:=xs) sI jK rfl rfl H wn rfl rfl bX.empty hxl (fun j u hj=>H.hp.aH (hxc j u hj)) hx1 (by omega) (by omega) rfl ?_;clear H;intro v7 Lo a w hrow H;dsimp only [List.nil_append] at H;exact kH H (gY K5 rfl (LR results175 rfl fun H=>H.hp.dM ⟨_,by rw [gD,hn] at hrow;exact hrow,dQ⟩))
theorem agY (G:GH) (w0:World) (hO:gG G [] w0) (rows:List (List Dat)) (A:Option Addr) (n c:Nat) (hv:au G (.sl 2 rows) (.slice A n c)) (hz:rows.length≤4294967296) :
  Calls prog 176 #[.slice A n c] w0 (fP w0 G [] fun u G' L'=>∃ xs,bX 93 2 u rows.length xs L'∧bV G' 2 rows xs):=by
 obtain ⟨hn,hc1,hc2,hnil,hx⟩:=hv.cells;refine jr (N:=8) (T:=[(0,_)]) func176 rfl ntmps176 rfl rfl hO ?_;intro a H;refine kP H (SR fun _ K1=>aF K1 rfl (SQ fun _ K2=>SR fun _ K3=>Rm rfl ?_));clear H K1;intro a H;refine BX xC H wn rfl rfl ?_;clear H;intro a H;refine K3 _ _ ?_;clear K3;refine mW H rfl ?_ ?_
 ·intro h4
  refine kP H (SR fun _ K4=>aF K4 rfl ?_);clear H K4;intro a H;refine lr H results176 rfl ?_;have hr0:=hnil (by simpa using h4);subst hr0;exact H.hp.dM ⟨[],bX.nil,bV.nil⟩
 intro h4
 try have p4:=dF h4
 refine iw ?_;refine K2 _ _ ?_;clear K2;refine eY (fun _ K5=>?_)
 have hA:¬ A=none:=by intro e;rw [e] at h4;cases h4
 refine tO ?_;refine BS xC sH H wn rfl ?_;clear H;intro b5 a w hb5 H;refine kH H (Rm rfl ?_);clear H;intro a H
 by_cases hr0:rows=[]
 ·have hn0:n=0:=by rw [hn,hr0];rfl
  subst hn0;refine BR xC sH H wn rfl rfl (bR _) rfl ?_;clear H;intro a H;refine kH H (gY K5 rfl ?_);clear H K5;intro a H;refine lr H results176 rfl ?_;subst hr0;exact H.hp.dM ⟨[],bX.empty,bV.nil⟩
 obtain ⟨b,o,xs,rfl,hxl,hxc,hx1,dQ⟩:=hx hr0;refine mI (Li:=[]) (Lo:=[_]) (news:=xs) xC sH rfl rfl H wn rfl rfl bX.empty hxl (fun j u hj=>H.hp.aH (hxc j u hj)) hx1 (by omega) (by omega) rfl ?_;clear H;intro v7 Lo a w hrow H;dsimp only [List.nil_append] at H;exact kH H (gY K5 rfl (LR results176 rfl fun H=>H.hp.dM ⟨_,by rw [gD,hn] at hrow;exact hrow,dQ⟩))
theorem agW (G:GH) (w0:World) (hO:gG G [] w0) (rows:List (List Dat)) (A:Option Addr) (n c:Nat) (hv:au G (.sl 6 rows) (.slice A n c)) (hz:rows.length≤4294967296) :
  Calls prog 177 #[.slice A n c] w0 (fP w0 G [] fun u G' L'=>∃ xs,bX 107 6 u rows.length xs L'∧bV G' 6 rows xs):=by
 obtain ⟨hn,hc1,hc2,hnil,hx⟩:=hv.cells;refine jr (N:=8) (T:=[(0,_)]) func177 rfl ntmps177 rfl rfl hO ?_;intro a H;refine kP H (SR fun _ K1=>aF K1 rfl (SQ fun _ K2=>SR fun _ K3=>Rm rfl ?_));clear H K1;intro a H;refine BX xD H wn rfl rfl ?_;clear H;intro a H;refine K3 _ _ ?_;clear K3;refine mW H rfl ?_ ?_
 ·intro h4
  refine kP H (SR fun _ K4=>aF K4 rfl ?_);clear H K4;intro a H;refine lr H results177 rfl ?_;have hr0:=hnil (by simpa using h4);subst hr0;exact H.hp.dM ⟨[],bX.nil,bV.nil⟩
 intro h4
 try have p4:=dF h4
 refine iw ?_;refine K2 _ _ ?_;clear K2;refine eY (fun _ K5=>?_)
 have hA:¬ A=none:=by intro e;rw [e] at h4;cases h4
 refine tO ?_;refine BS xD wD H wn rfl ?_;clear H;intro b5 a w hb5 H;refine kH H (Rm rfl ?_);clear H;intro a H
 by_cases hr0:rows=[]
 ·have hn0:n=0:=by rw [hn,hr0];rfl
  subst hn0;refine BR xD wD H wn rfl rfl (bR _) rfl ?_;clear H;intro a H;refine kH H (gY K5 rfl ?_);clear H K5;intro a H;refine lr H results177 rfl ?_;subst hr0;exact H.hp.dM ⟨[],bX.empty,bV.nil⟩
 obtain ⟨b,o,xs,rfl,hxl,hxc,hx1,dQ⟩:=hx hr0;refine mI (Li:=[]) (Lo:=[_]) (news:=xs) xD wD rfl rfl H wn rfl rfl bX.empty hxl (fun j u hj=>H.hp.aH (hxc j u hj)) hx1 (by omega) (by omega) rfl ?_;clear H;intro v7 Lo a w hrow H;dsimp only [List.nil_append] at H;exact kH H (gY K5 rfl (LR results177 rfl fun H=>H.hp.dM ⟨_,by rw [gD,hn] at hrow;exact hrow,dQ⟩))
theorem agR (G:GH) (w0:World) (hG:Hold G w0) (rows:List (List Dat)) (A:Option Addr) (n c:Nat) (hv:au G (.sl 6 rows) (.slice A n c)) (hz:rows.length≤4294967296) :
  Calls prog 177 #[.slice A n c] w0 (bB w0 G fun u G'=>au G' (.sl 6 rows) u):=Il hG (agW G w0 (yh hG) rows A n c hv hz) rfl
theorem aha (G:GH) (w0:World) (hO:gG G [] w0) (rows:List (List Dat)) (A:Option Addr) (n c:Nat) (hv:au G (.sl 2 rows) (.slice A n c)) (hz:rows.length≤4294967296) :
  Calls prog 178 #[.slice A n c] w0 (fP w0 G [] fun u G' L'=>∃ xs,bX 110 2 u rows.length xs L'∧bV G' 2 rows xs):=by
 obtain ⟨hn,hc1,hc2,hnil,hx⟩:=hv.cells;refine jr (N:=8) (T:=[(0,_)]) func178 rfl ntmps178 rfl rfl hO ?_;intro a H;refine kP H (SR fun _ K1=>aF K1 rfl (SQ fun _ K2=>SR fun _ K3=>Rm rfl ?_));clear H K1;intro a H;refine BX uE H wn rfl rfl ?_;clear H;intro a H;refine K3 _ _ ?_;clear K3;refine mW H rfl ?_ ?_
 ·intro h4
  refine kP H (SR fun _ K4=>aF K4 rfl ?_);clear H K4;intro a H;refine lr H results178 rfl ?_;have hr0:=hnil (by simpa using h4);subst hr0;exact H.hp.dM ⟨[],bX.nil,bV.nil⟩
 intro h4
 try have p4:=dF h4
 refine iw ?_;refine K2 _ _ ?_;clear K2;refine eY (fun _ K5=>?_)
 have hA:¬ A=none:=by intro e;rw [e] at h4;cases h4
 refine tO ?_;refine BS uE wE H wn rfl ?_;clear H;intro b5 a w hb5 H;refine kH H (Rm rfl ?_);clear H;intro a H
 by_cases hr0:rows=[]
 ·have hn0:n=0:=by rw [hn,hr0];rfl
  subst hn0;refine BR uE wE H wn rfl rfl (bR _) rfl ?_;clear H;intro a H;refine kH H (gY K5 rfl ?_);clear H K5;intro a H;refine lr H results178 rfl ?_;subst hr0;exact H.hp.dM ⟨[],bX.empty,bV.nil⟩
 obtain ⟨b,o,xs,rfl,hxl,hxc,hx1,dQ⟩:=hx hr0;refine mI (Li:=[]) (Lo:=[_]) (news:=xs) uE wE rfl rfl H wn rfl rfl bX.empty hxl (fun j u hj=>H.hp.aH (hxc j u hj)) hx1 (by omega) (by omega) rfl ?_;clear H;intro v7 Lo a w hrow H;dsimp only [List.nil_append] at H;exact kH H (gY K5 rfl (LR results178 rfl fun H=>H.hp.dM ⟨_,by rw [gD,hn] at hrow;exact hrow,dQ⟩))
theorem agT (G:GH) (w0:World) (hG:Hold G w0) (rows:List (List Dat)) (A:Option Addr) (n c:Nat) (hv:au G (.sl 2 rows) (.slice A n c)) (hz:rows.length≤4294967296) :
  Calls prog 178 #[.slice A n c] w0 (bB w0 G fun u G'=>au G' (.sl 2 rows) u):=Il hG (aha G w0 (yh hG) rows A n c hv hz) rfl
theorem agX (G:GH) (w0:World) (hO:gG G [] w0) (rows:List (List Dat)) (A:Option Addr) (n c:Nat) (hv:au G (.sl 4 rows) (.slice A n c)) (hz:rows.length≤4294967296) :
  Calls prog 179 #[.slice A n c] w0 (fP w0 G [] fun u G' L'=>∃ xs,bX 96 4 u rows.length xs L'∧bV G' 4 rows xs):=by
 obtain ⟨hn,hc1,hc2,hnil,hx⟩:=hv.cells;refine jr (N:=8) (T:=[(0,_)]) func179 rfl ntmps179 rfl rfl hO ?_;intro a H;refine kP H (SR fun _ K1=>aF K1 rfl (SQ fun _ K2=>SR fun _ K3=>Rm rfl ?_));clear H K1;intro a H;refine BX Ay H wn rfl rfl ?_;clear H;intro a H;refine K3 _ _ ?_;clear K3;refine mW H rfl ?_ ?_
 ·intro h4
  refine kP H (SR fun _ K4=>aF K4 rfl ?_);clear H K4;intro a H;refine lr H results179 rfl ?_;have hr0:=hnil (by simpa using h4);subst hr0;exact H.hp.dM ⟨[],bX.nil,bV.nil⟩
 intro h4
 try have p4:=dF h4
 refine iw ?_;refine K2 _ _ ?_;clear K2;refine eY (fun _ K5=>?_)
 have hA:¬ A=none:=by intro e;rw [e] at h4;cases h4
 refine tO ?_;refine BS Ay Av H wn rfl ?_;clear H;intro b5 a w hb5 H;refine kH H (Rm rfl ?_);clear H;intro a H
 by_cases hr0:rows=[]
 ·have hn0:n=0:=by rw [hn,hr0];rfl
  subst hn0;refine BR Ay Av H wn rfl rfl (bR _) rfl ?_;clear H;intro a H;refine kH H (gY K5 rfl ?_);clear H K5;intro a H;refine lr H results179 rfl ?_;subst hr0;exact H.hp.dM ⟨[],bX.empty,bV.nil⟩
 obtain ⟨b,o,xs,rfl,hxl,hxc,hx1,dQ⟩:=hx hr0;refine mI (Li:=[]) (Lo:=[_]) (news:=xs) Ay Av rfl rfl H wn rfl rfl bX.empty hxl (fun j u hj=>H.hp.aH (hxc j u hj)) hx1 (by omega) (by omega) rfl ?_;clear H;intro v7 Lo a w hrow H;dsimp only [List.nil_append] at H;exact kH H (gY K5 rfl (LR results179 rfl fun H=>H.hp.dM ⟨_,by rw [gD,hn] at hrow;exact hrow,dQ⟩))
theorem agS (G:GH) (w0:World) (hG:Hold G w0) (rows:List (List Dat)) (A:Option Addr) (n c:Nat) (hv:au G (.sl 4 rows) (.slice A n c)) (hz:rows.length≤4294967296) :
  Calls prog 179 #[.slice A n c] w0 (bB w0 G fun u G'=>au G' (.sl 4 rows) u):=Il hG (agX G w0 (yh hG) rows A n c hv hz) rfl
theorem aiE:∀ args w,(callFunc 175 args).run prog w=.ok (.enter 175 args) w:=enters func175 rfl (by kernel_rfl)
theorem aiF:∀ args w,(callFunc 176 args).run prog w=.ok (.enter 176 args) w:=enters func176 rfl (by kernel_rfl)
theorem aiG:∀ args w,(callFunc 177 args).run prog w=.ok (.enter 177 args) w:=enters func177 rfl (by kernel_rfl)
theorem aiH:∀ args w,(callFunc 178 args).run prog w=.ok (.enter 178 args) w:=enters func178 rfl (by kernel_rfl)
theorem atn:qE prog 36 [(0,1),(1,1),(2,1),(3,1)] [.slice none 0 0,.slice none 0 0,.slice none 0 0,.slice none 0 0]:=⟨by kernel_rfl,by kernel_rfl⟩
theorem aiI:∀ args w,(callFunc 179 args).run prog w=.ok (.enter 179 args) w:=enters func179 rfl (by kernel_rfl)
theorem aV.setAt {G:GH}:∀ {r:List Dat} {cs:List aj} {k:Nat} {d:Dat} {v:aj},aV G r cs→r[k]?=some d→au G d v→aV G r (cs.set k v)
 | [],_,_,_,_,_,h,_=>by simp at h
 | e :: r,cs,k,d,v,h,hk,hv=>by
  simp only [aV] at h ⊢
  obtain ⟨x,vs,rfl,h1,h2⟩:=h
  cases k with
  | zero =>
   simp only [Bc,oK] at hk
   subst hk;exact ⟨v,vs,rfl,hv,h2⟩
  | succ k=>exact ⟨x,vs.set k v,rfl,h1,aV.setAt h2 (by simpa using hk) hv⟩
theorem bV.setAt {G:GH} {sz:Nat}:∀ {rows:List (List Dat)} {xs:List aj} {i k:Nat} {r:List Dat} {d:Dat} {v:aj},bV G sz rows xs→rows[i]?=some r→r[k]?=some d→k < sz→au G d v→bV G sz rows (xs.set (i*sz+k) v)
 | [],_,_,_,_,_,_,_,h,_,_,_=>by simp at h
 | q :: rows,xs,i,k,r,d,v,h,hr,hk,hs,hv=>by
  obtain ⟨css,rfl,h2,h3⟩:=h
  cases css with
  | nil=>simp at h2
  | cons c css =>
   obtain ⟨h4,h5⟩:=h3 0 q c rfl rfl;have h6:bV G sz rows css.flatten:=⟨css,rfl,by simpa using h2,fun j r' cs hr' hc=>h3 (j+1) r' cs (by simpa using hr') (by simpa using hc)⟩
   have h7:∀ {c' x':List aj},aV G q c'→c'.length=sz→bV G sz rows x'→bV G sz (q :: rows) (c'++x'):=fun a b e=>by
    have h8:=((bV.nil (G:=G) (sz:=sz)).snoc a b).append e
    simpa using h8
   rw [List.flatten_cons]
   cases i with
   | zero =>
    simp only [Bc,oK] at hr
    subst hr;rw [Nat.zero_mul,gD,List.set_append_left _ _ (by omega)];exact h7 (h4.setAt hk hv) (by rw [List.length_set];exact h5) h6
   | succ i =>
    rw [List.set_append_right _ _ (by rw [h5,Nat.succ_mul];omega),h5,show (i+1)*sz+k - sz=i*sz+k by rw [Nat.succ_mul];omega];exact h7 h4 h5 (bV.setAt h6 (by simpa using hr) hk hs hv)
theorem atr {G:GH} {l:List bU} {xs:List aj} {k:Nat} (h:bV G 6 (l.map bU.dat) xs) (hk:k < l.length):∃ A c,xs[k*6+5]?=some (.slice A l[k].props.length c)∧au G (.sl 2 (l[k].props.map aS.dat)) (.slice A l[k].props.length c):=by
 obtain ⟨cs,hcl,hcx,hcr⟩:=h.at (k:=k) (r:=l[k].dat) (by simp [hk]);obtain ⟨A,c,rfl,hp⟩:=ML hcr;exact ⟨A,c,hcx 5 _ rfl,hp⟩
theorem apg {G:GH} {l:List eD} {xs:List aj} {k:Nat} (h:bV G 2 (l.map eD.dat) xs) (hk:k < l.length):∃ A n c,xs[k*2+1]?=some (.slice A n c)∧au G (.sl 4 (l[k].levels.map jH.dat)) (.slice A n c):=by
 obtain ⟨cs,hcl,hcx,hcr⟩:=h.at (k:=k) (r:=l[k].dat) (by simp [hk]);obtain ⟨v1,vs,rfl,-,v2,vs2,rfl,h2,-⟩:=hcr;obtain ⟨A,n,c,rfl⟩:=au.form h2;exact ⟨A,n,c,hcx 1 _ rfl,h2⟩
theorem ahe (G:GH) (w0:World) (hG:Hold G w0) (s:Ba) (a1 Ya c1 d1:aj) (hR:zH G s a1 Ya c1 d1) (z1:s.styles.length≤4294967296) (z2:s.lists.length≤4294967296) (z3:s.comments.length≤4294967296) (z4:s.vars.length≤4294967296) (z5:∀ x∈s.styles,x.props.length≤4294967296) (z6:∀ x∈s.lists,x.levels.length≤4294967296) :
  Calls prog 116 #[.agg #[a1,Ya,c1,d1]] w0 (bB w0 G fun u G'=>∃ a' b' c' d',u=.agg #[a',b',c',d']∧zH G' s a' b' c' d'):=by
 have hml:maxLen=9223372036854775807:=rfl;obtain ⟨aA,an,ac,rfl⟩:=hR.st.form;obtain ⟨bA,bn,bc,rfl⟩:=hR.li.form;obtain ⟨cA,cn,cc,rfl⟩:=hR.cm.form;obtain ⟨dA,dn,dc,rfl⟩:=hR.va.form;obtain ⟨hs1,hs2,hs3,hs4⟩:=hR;refine eN [(0,_)] func116 rfl ntmps116 rfl rfl hG ?_;intro a H;refine fK (fun _ K1=>?_);refine dW (cs:=[_,_,_,_]) H wn rfl rfl rfl ?_;clear H;intro b1 a w hb1 H;refine dJ uz H wn rfl ?_;clear H;intro b2 a w hb2 H;refine K1 _ _ ?_;clear K1;refine eY (fun _ K2=>?_);have H:=H.dX (Pl:=[_,_]) (dN:=[_,_]) [1,0] (by decide) rfl;obtain ⟨Ga,hma,hb1',H⟩:=H.eB;have hga:=fun j v hj=>nN hb1' 0 [.slice aA an ac,.slice bA bn bc,.slice cA cn cc,.slice dA dn dc] rfl j v hj;replace hs1:=hs1.mono hma;replace hs2:=hs2.mono hma;replace hs3:=hs3.mono hma;replace hs4:=hs4.mono hma
 have dO:Nt (fun (aJ:Nat→aj × OL) (bQ:Nat) (v:aj) (G:GH)=>match bQ with|0=>v=(aM b1 0)|1=>v=.slice aA an ac|2=>v=(aJ 2).1∧∃ xs,bX 192 6 v s.styles.length xs (aJ 2).2∧bV G 6 (s.styles.map bU.dat) xs|3=>v=(aM b1 1)|4=>v=.slice bA bn bc|5=>v=(aJ 5).1∧∃ xs,bX 93 2 v s.lists.length xs (aJ 5).2∧bV G 2 (s.lists.map eD.dat) xs|6=>v=(aM b1 2)|7=>v=.slice cA cn cc|8=>au G (.sl 6 (s.comments.map fM.dat)) v|9=>v=(aM b1 3)|10=>v=.slice dA dn dc|11=>au G (.sl 2 (s.vars.map iT.dat)) v|12=>∃ c' d',v=.agg #[(aJ 2).1,(aJ 5).1,c',d']∧au G (.sl 6 (s.comments.map fM.dat)) c'∧au G (.sl 2 (s.vars.map iT.dat)) d'|13=>∃ b,v=(aM b 0)∧aJ 13=((aM b 0),[(b,.cells #[.slice none 0 0,.slice none 0 0,.slice none 0 0,.slice none 0 0] 36 (0,0))])|_=>True):=by intro aJ bQ v G G' hm h;(iterate 15 (rcases bQ with _|bQ;(first|exact h|exact let ⟨h1,xs,h2,h3⟩:=h;⟨h1,xs,h2,h3.mono hm⟩|exact au.mono hm h|exact let ⟨c',d',h1,h2,h3⟩:=h;⟨c',d',h1,h2.mono hm,h3.mono hm⟩)));exact trivial
 refine NP [2,5,13] (hmx) [[],[0],[0,1],[],[3],(ra 0 5),[],[6],(ra 0 8),[],[9],(ra 0 11),(ra 0 12),[],(ra 0 14)] [14] (by kernel_rfl) (by kernel_rfl) (by decide) (by kernel_rfl) (fun (aJ:Nat→aj × OL) (bQ:Nat) (v:aj) (G:GH)=>match bQ with|0=>v=(aM b1 0)|1=>v=.slice aA an ac|2=>v=(aJ 2).1∧∃ xs,bX 192 6 v s.styles.length xs (aJ 2).2∧bV G 6 (s.styles.map bU.dat) xs|3=>v=(aM b1 1)|4=>v=.slice bA bn bc|5=>v=(aJ 5).1∧∃ xs,bX 93 2 v s.lists.length xs (aJ 5).2∧bV G 2 (s.lists.map eD.dat) xs|6=>v=(aM b1 2)|7=>v=.slice cA cn cc|8=>au G (.sl 6 (s.comments.map fM.dat)) v|9=>v=(aM b1 3)|10=>v=.slice dA dn dc|11=>au G (.sl 2 (s.vars.map iT.dat)) v|12=>∃ c' d',v=.agg #[(aJ 2).1,(aJ 5).1,c',d']∧au G (.sl 6 (s.comments.map fM.dat)) c'∧au G (.sl 2 (s.vars.map iT.dat)) d'|13=>∃ b,v=(aM b 0)∧aJ 13=((aM b 0),[(b,.cells #[.slice none 0 0,.slice none 0 0,.slice none 0 0,.slice none 0 0] 36 (0,0))])|_=>True) (fun m hm x y i v G hi hc h=>by
  have hm:m=2∨m=5∨m=13:=by simpa using hm
  rcases hm with rfl|rfl|rfl
  ·(iterate 15 (rcases i with _|i;(first|exact h|exact absurd hi (by decide)|exact absurd hc (by decide))));exact trivial
  ·(iterate 15 (rcases i with _|i;(first|exact h|exact absurd hi (by decide)|exact absurd hc (by decide))));exact trivial
  ·(iterate 15 (rcases i with _|i;(first|exact h|exact absurd hi (by decide)|exact absurd hc (by decide))));exact trivial
  ) H ?_ ?_ ?_
 ·clear H;refine aD ?_ ?_ ?_ ?_ (aD ?_ ?_ ?_ ?_ (aD ?_ ?_ ?_ ?_ (bM ?_ (bM ?_ (bM ?_ cO)))))
  ·intro aJ dD aP a w G1 dH _ _ aK hc hG HT hv;have H:=HT;clear aK;have Hb:=H.full;have H:=Hb;clear hc;refine kH H (Rf Ef rfl ?_);clear H;intro a H;refine aC ⟨rfl,?_⟩;exact dw (by kernel_rfl) (dO aJ) rfl rfl HT Hb hG hv (fun _ _ h=>h) (rfl) H
  ·intro aJ dD aP a w G1 dH _ _ aK hc hG HT hv;have H:=HT;clear aK;have H:=H.aN (hv 0 6 (hc 0 (by decide)) rfl) rfl;have Hb:=H.full;have H:=Hb;clear hc;refine kH H (Rg Au rfl (aG hG (hga 0 _ rfl)) ?_);clear H;intro a H;refine aC ⟨rfl,?_⟩;exact dw (by kernel_rfl) (dO aJ) rfl rfl HT Hb hG hv (fun _ _ h=>h) (rfl) H
  ·intro _ _ _ _ _ _ _ _ hB;exact absurd hB (by decide)
  ·intro aJ dD aP a w G1 dH _ _ aK hc hG HT hv;have H:=HT;clear aK;have Hb:=H.full;have H:=Hb;clear hc;refine kH H (Rf Eh rfl ?_);clear H;intro a H;refine aC ⟨rfl,?_⟩;exact dw (by kernel_rfl) (dO aJ) rfl rfl HT Hb hG hv (fun _ _ h=>h) (rfl) H
  ·intro aJ dD aP a w G1 dH _ _ aK hc hG HT hv;have H:=HT;clear aK;have H:=H.aN (hv 3 9 (hc 3 (by decide)) rfl) rfl;have Hb:=H.full;have H:=Hb;clear hc;refine kH H (Rg zq rfl (aG hG (hga 1 _ rfl)) ?_);clear H;intro a H;refine aC ⟨rfl,?_⟩;exact dw (by kernel_rfl) (dO aJ) rfl rfl HT Hb hG hv (fun _ _ h=>h) (rfl) H
  ·intro _ _ _ _ _ _ _ _ hB;exact absurd hB (by decide)
  ·intro aJ dD aP a w G1 dH _ _ aK hc hG HT hv;have H:=HT;clear aK;have Hb:=H.full;have H:=Hb;clear hc;refine kH H (Rf Oo rfl ?_);clear H;intro a H;refine aC ⟨rfl,?_⟩;exact dw (by kernel_rfl) (dO aJ) rfl rfl HT Hb hG hv (fun _ _ h=>h) (rfl) H
  ·intro aJ dD aP a w G1 dH _ _ aK hc hG HT hv;have H:=HT;clear aK;have H:=H.aN (hv 6 12 (hc 6 (by decide)) rfl) rfl;have Hb:=H.full;have H:=Hb;clear hc;refine kH H (Rg Dz rfl (aG hG (hga 2 _ rfl)) ?_);clear H;intro a H;refine aC ⟨rfl,?_⟩;exact dw (by kernel_rfl) (dO aJ) rfl rfl HT Hb hG hv (fun _ _ h=>h) (rfl) H
  ·intro aJ dD aP a w G1 dH _ _ aK hc hG HT hv;have H:=HT;clear aK;have H:=H.aN (hv 7 13 (hc 7 (by decide)) rfl) rfl;have Hb:=H.full;have H:=Hb;clear hc;refine s_call aiG H wn rfl (agR _ _ H.ro _ _ _ _ (hs3.mono hG) (by simpa using z3)) rfl ?_;clear H;rintro v14 AJ a w rY xP H;refine aC ⟨rfl,?_⟩;exact dw (by kernel_rfl) (dO aJ) rfl rfl HT Hb hG hv xP (rY) H
  ·intro aJ dD aP a w G1 dH _ _ aK hc hG HT hv;have H:=HT;clear aK;have Hb:=H.full;have H:=Hb;clear hc;refine kH H (Rf Oq rfl ?_);clear H;intro a H;refine aC ⟨rfl,?_⟩;exact dw (by kernel_rfl) (dO aJ) rfl rfl HT Hb hG hv (fun _ _ h=>h) (rfl) H
  ·intro aJ dD aP a w G1 dH _ _ aK hc hG HT hv;have H:=HT;clear aK;have H:=H.aN (hv 9 15 (hc 9 (by decide)) rfl) rfl;have Hb:=H.full;have H:=Hb;clear hc;refine kH H (Rg xB rfl (aG hG (hga 3 _ rfl)) ?_);clear H;intro a H;refine aC ⟨rfl,?_⟩;exact dw (by kernel_rfl) (dO aJ) rfl rfl HT Hb hG hv (fun _ _ h=>h) (rfl) H
  ·intro aJ dD aP a w G1 dH _ _ aK hc hG HT hv;have H:=HT;clear aK;have H:=H.aN (hv 10 16 (hc 10 (by decide)) rfl) rfl;have Hb:=H.full;have H:=Hb;clear hc;refine s_call aiH H wn rfl (agT _ _ H.ro _ _ _ _ (hs4.mono hG) (by simpa using z4)) rfl ?_;clear H;rintro v17 yG a w ED TW H;refine aC ⟨rfl,?_⟩;exact dw (by kernel_rfl) (dO aJ) rfl rfl HT Hb hG hv TW (ED) H
  ·intro aJ dD aP a w G1 dH _ _ aK hc hG HT hv;have H:=HT;clear aK;obtain ⟨u8,Ai,nk⟩:=hv 2 8 (hc 2 (by decide)) rfl;(try dsimp only at nk);obtain ⟨h8,QO,Dg,OU⟩:=nk;obtain ⟨sA,sc,rfl,-,-⟩:=Dg.shape;have H:=H.gI Ai;obtain ⟨WX,Gq,wZ⟩:=hv 5 11 (hc 5 (by decide)) rfl;(try dsimp only at wZ);obtain ⟨h11,JV,yV,I4⟩:=wZ;obtain ⟨lA,lc,rfl,-,-⟩:=yV.shape;have H:=H.gI Gq;obtain ⟨u14,Ma,rY⟩:=hv 8 14 (hc 8 (by decide)) rfl;(try dsimp only at rY);obtain ⟨QV,n14,c14,rfl⟩:=rY.form;have H:=H.gI Ma;obtain ⟨u17,Vb,ED⟩:=hv 11 17 (hc 11 (by decide)) rfl;(try dsimp only at ED);obtain ⟨A17,n17,c17,rfl⟩:=ED.form;have H:=H.gI Vb;have Hb:=H.full;have H:=Hb;clear hc;refine jl atn [_,_,_,_] H wn rfl rfl rfl rfl ?_;clear H;intro a H;refine aC ⟨rfl,?_⟩;exact dw (by kernel_rfl) (dO aJ) rfl rfl HT Hb hG hv (fun _ _ h=>h) (⟨_,_,by rw [← h8,← h11],rY,ED⟩) H
  ·intro _ _ _ _ _ _ _ _ hB;exact absurd hB (by decide)
  intro _ _ _ _ _ _ _ hB;exact absurd hB (by decide)
 ·clear H;refine aD ?_ ?_ ?_ ?_ (aD ?_ ?_ ?_ ?_ (aD ?_ ?_ ?_ ?_ (bM ?_ (bM ?_ (bM ?_ cO)))))
  ·intro hB;exact absurd hB (by decide)
  ·intro hB;exact absurd hB (by decide)
  ·intro _ aJ dD aP a w G1 dH _ hc hG HT hv;have H:=HT;have H:=H.aN (hv (.bool false,[]) 1 7 (by decide) (hc 1 (by decide)) rfl) rfl;have Hb:=H.full;have H:=Hb;clear hc;refine gK aiE (Li:=dD) (L:=[]) (H.cast (fZ _).symm) wn rfl (agZ _ _ (yh H.ro) _ _ _ _ (hs1.mono hG) (by simpa using z1)) rfl ?_;clear H;rintro v8 G8 L8 a w ⟨QO,Dg,OU⟩ oM H;rw [bO] at Dg;have H:=H.perm vG;refine aC ⟨rfl,(v8,L8),?_⟩;exact Cx (by kernel_rfl) (dO (wH aJ 2 (v8,L8))) rfl HT Hb hG (fun j e h1 h2 h3=>hv (v8,L8) j e h1 h2 h3) oM (⟨rfl,QO,Dg,OU⟩) H
  ·intro hB;exact absurd hB (by decide)
  ·intro hB;exact absurd hB (by decide)
  ·intro _ aJ dD aP a w G1 dH _ hc hG HT hv;have H:=HT;have H:=H.aN (hv (.bool false,[]) 4 10 (by decide) (hc 4 (by decide)) rfl) rfl;have Hb:=H.full;have H:=Hb;clear hc;refine gK aiF (Li:=dD) (L:=[]) (H.cast (fZ _).symm) wn rfl (agY _ _ (yh H.ro) _ _ _ _ (hs2.mono hG) (by simpa using z2)) rfl ?_;clear H;rintro v11 tC Fp a w ⟨JV,yV,I4⟩ mF H;rw [bO] at yV;have H:=H.perm vG;refine aC ⟨rfl,(v11,Fp),?_⟩;exact Cx (by kernel_rfl) (dO (wH aJ 5 (v11,Fp))) rfl HT Hb hG (fun j e h1 h2 h3=>hv (v11,Fp) j e h1 h2 h3) mF (⟨rfl,JV,yV,I4⟩) H
  ·intro hB;exact absurd hB (by decide)
  ·intro hB;exact absurd hB (by decide)
  ·intro hB;exact absurd hB (by decide)
  ·intro hB;exact absurd hB (by decide)
  ·intro hB;exact absurd hB (by decide)
  ·intro hB;exact absurd hB (by decide)
  ·intro hB;exact absurd hB (by decide)
  ·intro _ aJ dD aP a w G1 dH _ hc hG HT hv;have H:=HT;have Hb:=H.full;have H:=Hb;clear hc;refine dJ uz H wn rfl ?_;clear H;intro b3 a w hb3 H;refine aC ⟨rfl,((aM b3 0),[(b3,.cells #[.slice none 0 0,.slice none 0 0,.slice none 0 0,.slice none 0 0] 36 (0,0))]),?_⟩;exact Cx (by kernel_rfl) (dO (wH aJ 13 ((aM b3 0),[(b3,.cells #[.slice none 0 0,.slice none 0 0,.slice none 0 0,.slice none 0 0] 36 (0,0))]))) rfl HT Hb hG (fun j e h1 h2 h3=>hv ((aM b3 0),[(b3,.cells #[.slice none 0 0,.slice none 0 0,.slice none 0 0,.slice none 0 0] 36 (0,0))]) j e h1 h2 h3) (fun _ _ h=>h) (⟨b3,rfl,rfl⟩) H
  intro hB;exact absurd hB (by decide)
 clear H;intro aJ a w G iY H hv
 simp only [pX,List.flatMap_cons,List.flatMap_nil,cond_true,fZ,jm] at H
 obtain ⟨u3,hu3,hp3⟩:=hv 13 3 (by decide) rfl;(try dsimp only at hp3);obtain ⟨b3,rfl,e13⟩:=hp3;have H:=H.gI hu3;obtain ⟨u8,Ai,nk⟩:=hv 2 8 (by decide) rfl;(try dsimp only at nk);obtain ⟨h8,QO,Dg,OU⟩:=nk;obtain ⟨sA,sc,rfl,-,-⟩:=Dg.shape;have H:=H.gI Ai;obtain ⟨WX,Gq,wZ⟩:=hv 5 11 (by decide) rfl;(try dsimp only at wZ);obtain ⟨h11,JV,yV,I4⟩:=wZ;obtain ⟨lA,lc,rfl,-,-⟩:=yV.shape;have H:=H.gI Gq;obtain ⟨u18,Vd,LM⟩:=hv 12 18 (by decide) rfl;(try dsimp only at LM);obtain ⟨avT,avU,rfl,hc18,aaC⟩:=LM;obtain ⟨eA,en,ec,rfl⟩:=hc18.form;obtain ⟨fA,fn,fc,rfl⟩:=aaC.form;have H:=H.gI Vd;clear hv;obtain ⟨⟨vS,LS⟩,eS⟩:∃ y,y=aJ 2:=⟨_,rfl⟩;obtain ⟨⟨vL,LL⟩,eL⟩:∃ y,y=aJ 5:=⟨_,rfl⟩;rw [← eS,← eL,e13] at H;rw [← eS] at Dg h8;rw [← eL] at yV h11;dsimp only at H Dg yV h8 h11;subst h8;subst h11;rw [← jm] at H;have H:=H.perm (vG (l₁:=LS++LL) (l₂:=[_,_]));dsimp only [lca,bK] at H;refine aY uz 0 (vs:=[_,_,_,_]) _ H wn rfl rfl rfl rfl rfl rfl rfl rfl ?_;clear H;intro w H;dsimp only [List.set,setRow] at H;refine aC ⟨rfl,?_⟩;refine K2 _ _ ?_;clear K2;refine kP H (SQ fun _ K3=>SR fun _ K4=>dU Ef Au 0 rfl rfl (Rl sI rfl (Rm rfl (Kz K4 (SB ?_)))));clear H K4;intro a H;skip;refine eH (ι:=Nat × List aj × OL × GH) (Tc:=[(2,_),(3,_),(21,_)]) (Lc:=[(_,_),(_,_)]) (fun gh=>[(22,vi gh.1)]) (fun gh=>[]++(gh.2.2.1++LL)) (fun gh=>gh.2.2.2) (fun gh=>gh.1≤s.styles.length∧bX 192 6 (.slice sA s.styles.length sc) s.styles.length gh.2.1 gh.2.2.1∧bV gh.2.2.2 6 (s.styles.map bU.dat) gh.2.1∧(∀ b o,G b=some o→gh.2.2.2 b=some o)) (fun gh=>s.styles.length - gh.1) ((0,QO,LS,G)) (by exact (H).sub ⟨rfl,rfl,rfl,rfl,aL⟩) ?_ ?_
 ·exact ⟨iH _,Dg,OU,fun _ _ h=>h⟩
 clear H;rintro ⟨k,xs,Lo,g⟩ a w hI H;dsimp only at hI H;obtain ⟨hk,hrw,dQ,hgm⟩:=hI;dsimp only [lca,bK] at H;refine kP H (SR fun _ K5=>Rc rfl (Kz K5 (SQ fun _ K6=>Cd rfl ?_ ?_))) <;> clear H K5
 ·intro h23 a H
  try have BP:=dT h23
  have hk2:k < s.styles.length:=by omega
  obtain ⟨bs,rfl⟩:=hrw.ptr (by omega);obtain ⟨pA,pc,hpx,hpr⟩:=atr dQ hk2;obtain ⟨cur,-,rfl,hcur,hset⟩:=hrw.set1;have hpz:=z5 _ (lH hk2);refine kP H (Kc K6 (SQ fun _ K7=>SB (SR fun _ K8=>Rm rfl (aF K8 rfl ?_))));clear H K6 K8;intro a H
  have ql:AY (fun (bQ:Nat) (v:aj) (G:GH)=>match bQ with|0=>v=(aM b3 0)|1=>v=.slice (some ⟨bs,0,none⟩) s.styles.length sc|2=>v=vi k|3=>v=(aM b3 0)|4=>v=.slice (some ⟨bs,0,none⟩) s.styles.length sc|5=>v=vi k|6=>v=(aM bs (0+k*6))|7=>v=(aM bs (0+k*6+5))|8=>v=.slice pA s.styles[k].props.length pc|9=>au G (.sl 2 (s.styles[k].props.map aS.dat)) v|_=>True):=by intro bQ v G G' hm h;(iterate 13 (rcases bQ with _|bQ;(first|exact h|exact au.mono hm h)));exact trivial
  refine zK (hmx) [[],[0],[],[],[3],[],[3,4,5],(ra 3 4),(ra 3 5),(ra 3 6),(ra 0 10),(ra 0 11),(ra 0 12)] [10,11,12] (by kernel_rfl) (by kernel_rfl) _ ql H ?_ ?_
  ·clear H;refine aD ?_ ?_ ?_ ?_ (aD ?_ ?_ ?_ ?_ (aD ?_ ?_ (bS rfl) (bS rfl) (bM (bS rfl) cO)))
   ·refine cZ [] rfl trivial (by kernel_rfl) ql rfl rfl ?_;intro aP a w G1 hG HT H fin;exact kH H (Rf Ef rfl fun _ H=>fin H iJ rfl)
   ·refine cZ [(0,25,_)] rfl ⟨fun _ _ h=>h,aL⟩ (by kernel_rfl) ql rfl rfl ?_;intro aP a w G1 hG HT H fin;exact kH H (Ro Au 0 rfl fun _ H=>fin H iJ rfl)
   ·refine cZ [] rfl trivial (by kernel_rfl) ql rfl rfl ?_;intro aP a w G1 hG HT H fin;exact kH H (Rm rfl fun _ H=>fin H iJ rfl)
   ·refine cZ [] rfl trivial (by kernel_rfl) ql rfl rfl ?_;intro aP a w G1 hG HT H fin;exact kH H (Rf Ef rfl fun _ H=>fin H iJ rfl)
   ·refine cZ [(3,28,_)] rfl ⟨fun _ _ h=>h,aL⟩ (by kernel_rfl) ql rfl rfl ?_;intro aP a w G1 hG HT H fin;exact kH H (Ro Au 0 rfl fun _ H=>fin H iJ rfl)
   ·refine cZ [] rfl trivial (by kernel_rfl) ql rfl rfl ?_;intro aP a w G1 hG HT H fin;exact kH H (Rm rfl fun _ H=>fin H iJ rfl)
   ·refine cZ [(4,29,_),(5,30,_)] rfl ⟨fun _ _ h=>h,fun _ _ h=>h,aL⟩ (by kernel_rfl) ql rfl rfl ?_;intro aP a w G1 hG HT H fin;exact kH H (Ri sI jK rfl rfl fun _ H=>fin H iJ rfl)
   ·refine cZ [(6,31,_)] rfl ⟨fun _ _ h=>h,aL⟩ (by kernel_rfl) ql rfl rfl ?_;intro aP a w G1 hG HT H fin;exact kH H (Rf Tj rfl fun _ H=>fin H iJ rfl)
   ·refine cZ [(7,32,_)] rfl ⟨fun _ _ h=>h,aL⟩ (by kernel_rfl) ql rfl rfl ?_;intro aP a w G1 hG HT H fin;refine kL Ar H wn rfl (hrw.at H.hp (fun x hx=>fJ _ (fJ _ (List.mem_append_left _ hx))) (by rw [gD];exact hpx)) rfl ?_;clear H;intro a H;exact fin H iJ rfl
   refine cZ [(8,33,_)] rfl ⟨fun _ _ h=>h,aL⟩ (by kernel_rfl) ql rfl rfl ?_;intro aP a w G1 hG HT H fin;refine s_call Od H wn rfl (R4 _ _ H.ro _ _ _ _ (hpr.mono hG) (by simpa using hpz)) rfl ?_;clear H;rintro v34 J4 a w EF Uc H;exact fin H Uc (EF)
  clear H;intro a w G lZ H hv;have H:=H.aN (hv 1 26 rfl rfl) rfl;have H:=H.aN (hv 2 27 rfl rfl) rfl;obtain ⟨u34,aos,EF⟩:=hv 9 34 (by decide) rfl;(try dsimp only at EF);obtain ⟨DL,n34,c34,rfl⟩:=EF.form;have H:=H.gI aos;clear hv;refine kH H (Ri sI jK rfl rfl (Rf Tj rfl ?_));clear H;intro a H;refine aY Ar 2 (c:=cur) (vs:=[.slice DL n34 c34]) (cur.set (k*6+5) (.slice DL n34 c34)) H wn rfl rfl rfl rfl rfl rfl (by simp;omega) (by rw [gD];rfl) ?_;clear H;intro w H;dsimp only [List.set,List.cons_append,List.nil_append] at H;have hrwn:=hset (k*6+5) (.slice DL n34 c34);have amJ:=(dQ.mono lZ).setAt (i:=k) (k:=5) (r:=s.styles[k].dat) (v:=.slice DL n34 c34) (by simp [hk2]) rfl (by decide) EF;refine aC ⟨rfl,?_⟩;refine K7 _ _ ?_;clear K7;refine kP H (SC (Rd rfl (Rm rfl ?_)));clear H;intro a H;refine aC ?_;refine dx ((k+1,xs.set (k*6+5) (.slice DL n34 c34),[(bs,.cells (cur.set (k*6+5) (.slice DL n34 c34)).toArray 192 (0,0))],_)) (by exact (H).sub ⟨rfl,rfl,rfl,rfl,aL⟩) ?_
  (try dsimp only);exact ⟨by omega,hrwn,amJ,fun b o h=>lZ b o (hgm b o h)⟩
 intro h23 a H
 try have BP:=dF h23
 obtain rfl:k=s.styles.length:=by omega
 refine jI ?_;refine K3 _ _ ?_;clear K3;refine kP H (SQ fun _ K9=>SR fun _ eU=>dU Eh zq 0 rfl rfl (Rl xC rfl (Rm rfl (Kz eU (SB ?_)))));clear H eU;intro a H;skip;refine eH (ι:=Nat × List aj × OL × GH) (Tc:=[(2,_),(3,_),(40,_)]) (Lc:=[(_,_),(_,_)]) (fun gh=>[(41,vi gh.1)]) (fun gh=>[]++(Lo++gh.2.2.1)) (fun gh=>gh.2.2.2) (fun gh=>gh.1≤s.lists.length∧bX 93 2 (.slice lA s.lists.length lc) s.lists.length gh.2.1 gh.2.2.1∧bV gh.2.2.2 2 (s.lists.map eD.dat) gh.2.1∧(∀ b o,g b=some o→gh.2.2.2 b=some o)) (fun gh=>s.lists.length - gh.1) ((0,JV,LL,g)) (by exact (H).sub ⟨rfl,rfl,rfl,rfl,aL⟩) ?_ ?_
 ·exact ⟨iH _,yV,I4.mono hgm,fun _ _ h=>h⟩
 clear H;rintro ⟨k2,xs2,Lo2,g2⟩ a w hI H;dsimp only at hI H;obtain ⟨hk2,hrw2,ug,jg⟩:=hI;dsimp only [lca,bK] at H;refine kP H (SR fun _ fQ=>Rc rfl (Kz fQ (SQ fun _ iF=>Cd rfl ?_ ?_))) <;> clear H fQ
 ·intro kW a H
  try have p42:=dT kW
  have hk3:k2 < s.lists.length:=by omega
  obtain ⟨bl,rfl⟩:=hrw2.ptr (by omega);obtain ⟨qA,qn,qc,hqx,hqr⟩:=apg ug hk3;obtain ⟨Ed,-,rfl,avf,aod⟩:=hrw2.set1;have hqz:=z6 _ (lH hk3);refine kP H (Kc iF (SQ fun _ jd=>SB (SR fun _ iW=>Rm rfl (aF iW rfl ?_))));clear H iF iW;intro a H
  have Af:AY (fun (bQ:Nat) (v:aj) (G:GH)=>match bQ with|0=>v=(aM b3 1)|1=>v=.slice (some ⟨bl,0,none⟩) s.lists.length lc|2=>v=vi k2|3=>v=(aM b3 1)|4=>v=.slice (some ⟨bl,0,none⟩) s.lists.length lc|5=>v=vi k2|6=>v=(aM bl (0+k2*2))|7=>v=(aM bl (0+k2*2+1))|8=>v=.slice qA qn qc|9=>au G (.sl 4 (s.lists[k2].levels.map jH.dat)) v|_=>True):=by intro bQ v G G' hm h;(iterate 13 (rcases bQ with _|bQ;(first|exact h|exact au.mono hm h)));exact trivial
  refine zK (hmx) [[],[0],[],[],[3],[],[3,4,5],(ra 3 4),(ra 3 5),(ra 3 6),(ra 0 10),(ra 0 11),(ra 0 12)] [10,11,12] (by kernel_rfl) (by kernel_rfl) _ Af H ?_ ?_
  ·clear H;refine aD ?_ ?_ ?_ ?_ (aD ?_ ?_ ?_ ?_ (aD ?_ ?_ (bS rfl) (bS rfl) (bM (bS rfl) cO)))
   ·refine cZ [] rfl trivial (by kernel_rfl) Af rfl rfl ?_;intro aP a w G1 hG HT H fin;exact kH H (Rf Eh rfl fun _ H=>fin H iJ rfl)
   ·refine cZ [(0,44,_)] rfl ⟨fun _ _ h=>h,aL⟩ (by kernel_rfl) Af rfl rfl ?_;intro aP a w G1 hG HT H fin;exact kH H (Ro zq 0 rfl fun _ H=>fin H iJ rfl)
   ·refine cZ [] rfl trivial (by kernel_rfl) Af rfl rfl ?_;intro aP a w G1 hG HT H fin;exact kH H (Rm rfl fun _ H=>fin H iJ rfl)
   ·refine cZ [] rfl trivial (by kernel_rfl) Af rfl rfl ?_;intro aP a w G1 hG HT H fin;exact kH H (Rf Eh rfl fun _ H=>fin H iJ rfl)
   ·refine cZ [(3,47,_)] rfl ⟨fun _ _ h=>h,aL⟩ (by kernel_rfl) Af rfl rfl ?_;intro aP a w G1 hG HT H fin;exact kH H (Ro zq 0 rfl fun _ H=>fin H iJ rfl)
   ·refine cZ [] rfl trivial (by kernel_rfl) Af rfl rfl ?_;intro aP a w G1 hG HT H fin;exact kH H (Rm rfl fun _ H=>fin H iJ rfl)
   ·refine cZ [(4,48,_),(5,49,_)] rfl ⟨fun _ _ h=>h,fun _ _ h=>h,aL⟩ (by kernel_rfl) Af rfl rfl ?_;intro aP a w G1 hG HT H fin;exact kH H (Ri xC sH rfl rfl fun _ H=>fin H iJ rfl)
   ·refine cZ [(6,50,_)] rfl ⟨fun _ _ h=>h,aL⟩ (by kernel_rfl) Af rfl rfl ?_;intro aP a w G1 hG HT H fin;exact kH H (Rf Tp rfl fun _ H=>fin H iJ rfl)
   ·refine cZ [(7,51,_)] rfl ⟨fun _ _ h=>h,aL⟩ (by kernel_rfl) Af rfl rfl ?_;intro aP a w G1 hG HT H fin;refine kL WW H wn rfl (hrw2.at H.hp (fun x hx=>fJ _ (fJ _ (List.mem_append_right _ hx))) (by rw [gD];exact hqx)) rfl ?_;clear H;intro a H;exact fin H iJ rfl
   refine cZ [(8,52,_)] rfl ⟨fun _ _ h=>h,aL⟩ (by kernel_rfl) Af rfl rfl ?_;intro aP a w G1 hG HT H fin;refine s_call aiI H wn rfl (agS _ _ H.ro _ _ _ _ (hqr.mono hG) (by simpa using hqz)) rfl ?_;clear H;rintro v53 XG a w BJ KV H;exact fin H KV (BJ)
  clear H;intro a w G ru H hv;have H:=H.aN (hv 1 45 rfl rfl) rfl;have H:=H.aN (hv 2 46 rfl rfl) rfl;obtain ⟨u53,Vg,BJ⟩:=hv 9 53 (by decide) rfl;(try dsimp only at BJ);obtain ⟨uG,n53,c53,rfl⟩:=BJ.form;have H:=H.gI Vg;clear hv;refine kH H (Ri xC sH rfl rfl (Rf Tp rfl ?_));clear H;intro a H;refine aY WW (2+Lo.length) (c:=Ed) (vs:=[.slice uG n53 c53]) (Ed.set (k2*2+1) (.slice uG n53 c53)) H wn rfl (aoD [_,_] Lo _) rfl rfl rfl rfl (by simp;omega) (by rw [gD];rfl) ?_;clear H;intro w H;have H:=H.cast (asF [_,_] Lo _ _);have aoc:=aod (k2*2+1) (.slice uG n53 c53);have amK:=(ug.mono ru).setAt (i:=k2) (k:=1) (r:=s.lists[k2].dat) (v:=.slice uG n53 c53) (by simp [hk3]) rfl (by decide) BJ;refine aC ⟨rfl,?_⟩;refine jd _ _ ?_;clear jd;refine kP H (SC (Rd rfl (Rm rfl ?_)));clear H;intro a H;refine aC ?_;refine dx ((k2+1,xs2.set (k2*2+1) (.slice uG n53 c53),[(bl,.cells (Ed.set (k2*2+1) (.slice uG n53 c53)).toArray 93 (0,0))],_)) (by exact (H).sub ⟨rfl,rfl,rfl,rfl,aL⟩) ?_
  (try dsimp only);exact ⟨by omega,aoc,amK,fun b o h=>ru b o (jg b o h)⟩
 intro kW a H
 try have p42:=dF kW
 obtain rfl:k2=s.lists.length:=by omega
 refine jI ?_;refine K9 _ _ ?_;clear K9;refine fK (fun _ mq=>?_);refine aR uz (cs:=[_,_,_,_]) H wn rfl rfl (H.hp.bT 0 rfl rfl) rfl ?_;clear H;intro a H;refine aY uz 1 (vs:=[_,_,_,_]) _ H wn rfl rfl rfl rfl rfl rfl rfl rfl ?_;clear H;intro w H;dsimp only [List.set,setRow] at H;refine mq _ _ ?_;clear mq;refine cK ?_;have H:=H.un (A:=[_,_]);obtain ⟨Gr,hmr,rZ,H⟩:=St.nO (Li:=[_,_]++Lo) H hrw2 (rows:=s.lists.map eD.dat) (by simp) ug;obtain ⟨Gs,hms,anO,H⟩:=St.nO (Li:=[_,_]) H hrw (rows:=s.styles.map bU.dat) (by simp) ((dQ.mono jg).mono hmr);refine (leave1 H results116 (.cons (nH uz (cs:=[_,_,_,_]) H rfl rfl (H.hp.bT 1 rfl rfl)) .nil) ?_).1;exact H.rt ⟨_,_,_,_,rfl,anO,rZ.mono hms,(((hc18.mono hgm).mono jg).mono hmr).mono hms,(((aaC.mono hgm).mono jg).mono hmr).mono hms⟩
theorem ZA:∀ args w,(callFunc 60 args).run prog w=.ok (.enter 60 args) w:=enters func60 rfl (by kernel_rfl)
theorem ahS:∀ args w,(callFunc 116 args).run prog w=.ok (.enter 116 args) w:=enters func116 rfl (by kernel_rfl)
theorem aed:qE prog 38 [(0,1),(1,5),(6,1),(7,4)] [.slice none 0 0,.slice none 0 0,.int .i64 0,.int .i64 0,.slice none 0 0,.slice none 0 0,.slice none 0 0,.slice none 0 0,.slice none 0 0,.slice none 0 0,.slice none 0 0]:=⟨by kernel_rfl,by kernel_rfl⟩
theorem agU (G:GH) (w0:World) (hO:gG G [] w0) (l:List ay) (v:aj) (hv:au G (.sl 11 (l.map ay.dat)) v) (hz:cu l≤4294967296) :
  Calls prog 80 #[v] w0 (fP w0 G [] fun u G' L'=>∃ xs,bX 68 11 u l.length xs L'∧bV G' 11 (l.map ay.dat) xs):=by
 have ih:=R5 4294967297 (by omega);have hl:=Hu l;refine jr (N:=5) (T:=[(0,_)]) func80 rfl ntmps80 rfl rfl hO ?_;intro a H;refine kP H (SR fun _ K1=>aF K1 rfl (SR fun _ K2=>Rm rfl ?_));clear H K1;intro a H;refine gK Ze (Li:=[]) (L:=[]) H wn rfl (Y6 (fun x=>x) _ _ (yh H.ro) l _ _ hv (by omega) (fun y hy=>Yu (n:=4294967296) (R5 4294967296 (by omega)) (by omega) y (by have:=Xj hy;omega))) rfl ?_;clear H;rintro v4 G4 L4 a w ⟨xs4,anU,amG⟩ Je H;dsimp only [List.nil_append] at H;exact kH H (aF K2 rfl (LR results80 rfl fun H=>H.hp.dM ⟨xs4,anU,amG⟩))
def afg (G:GH) (D:iE) (d:fT) (L:OL):Prop :=
 ∃ xf Lf xr Lr,L=Lf++Lr∧bX 68 11 (aQ D.f) d.flow.length xf Lf∧bV G 11 (d.flow.map ay.dat) xf∧bX 102 3 (aQ D.r) d.revs.length xr Lr∧bV G 3 (d.revs.map bL.dat) xr ∧
  iA G d.fin (aQ D.p) (aQ D.d) (aQ D.y)∧D.ins=d.fin.marks.ins∧D.move=d.fin.marks.move∧zH G d.gU (aQ D.s1) (aQ D.s2) (aQ D.s3) (aQ D.s4)
theorem ahw (G:GH) (w0:World) (hO:gG G [] w0) (D:iE) (d:fT) (hR:jN G D d) (hz:yF d) :
  Calls prog 63 #[D.val] w0 (fP w0 G [] fun u G' L'=>∃ D':iE,u=D'.val∧afg G' D' d L'):=by
 obtain ⟨hfl,hhd,hins,hmv,pJ,hst⟩:=hR;obtain ⟨zf,zh,zr,zt,zs,Hw⟩:=hz;refine jr (N:=16) (T:=[(0,_)]) func63 rfl ntmps63 rfl rfl hO ?_;intro a H;refine fK (fun _ K1=>?_);refine dW (cs:=[_,_,_,_,_,_,_,_,_,_,_]) H wn rfl rfl rfl ?_;clear H;intro b1 a w hb1 H;refine dJ gV H wn rfl ?_;clear H;intro b2 a w hb2 H;refine K1 _ _ ?_;clear K1;refine eY (fun _ K2=>?_);have H:=H.dX (Pl:=[_,_]) (dN:=[_,_]) [1,0] (by decide) rfl;obtain ⟨Ga,hma,hb1',H⟩:=H.eB;have hga:=fun j v hj=>nN hb1' 0 D.cells rfl j v hj;replace hfl:=hfl.mono hma;replace hhd:=hhd.mono hma;replace pJ:=pJ.mono hma;replace hst:=hst.mono hma
 have dO:Nt (fun (aJ:Nat→aj × OL) (bQ:Nat) (v:aj) (G:GH)=>match bQ with|0=>v=(aM b1 0)|1=>v=aQ D.f|2=>v=(aJ 2).1∧∃ xs,bX 68 11 v d.flow.length xs (aJ 2).2∧bV G 11 (d.flow.map ay.dat) xs|3=>v=(aM b1 1)|4=>v=rz d.fin (aQ D.p) (aQ D.d) (aQ D.y)|5=>∃ p y z,v=.agg #[p,vi d.fin.marks.ins,vi d.fin.marks.move,y,z]∧iA G d.fin p y z|6=>v=(aM b1 6)|7=>v=aQ D.r|8=>v=(aJ 8).1∧∃ xs,bX 102 3 v d.revs.length xs (aJ 8).2∧bV G 3 (d.revs.map bL.dat) xs|9=>v=(aM b1 7)|10=>v=.agg #[aQ D.s1,aQ D.s2,aQ D.s3,aQ D.s4]|11=>∃ a' b' c' d',v=.agg #[a',b',c',d']∧zH G d.gU a' b' c' d'|_=>True):=by intro aJ bQ v G G' hm h;(iterate 14 (rcases bQ with _|bQ;(first|exact h|exact let ⟨h1,xs,h2,h3⟩:=h;⟨h1,xs,h2,h3.mono hm⟩|exact let ⟨p,y,z,h1,h2⟩:=h;⟨p,y,z,h1,h2.mono hm⟩|exact let ⟨p,q,y,z,h1,h2⟩:=h;⟨p,q,y,z,h1,h2.mono hm⟩)));exact trivial
 refine NP [2,8] (hmx) [[],[0],[0,1],[],[3],(ra 0 5),[],[6],(ra 0 8),[],[9],(ra 0 11),(ra 0 12),(ra 0 13)] [12,13] (by kernel_rfl) (by kernel_rfl) (by decide) (by kernel_rfl) (fun (aJ:Nat→aj × OL) (bQ:Nat) (v:aj) (G:GH)=>match bQ with|0=>v=(aM b1 0)|1=>v=aQ D.f|2=>v=(aJ 2).1∧∃ xs,bX 68 11 v d.flow.length xs (aJ 2).2∧bV G 11 (d.flow.map ay.dat) xs|3=>v=(aM b1 1)|4=>v=rz d.fin (aQ D.p) (aQ D.d) (aQ D.y)|5=>∃ p y z,v=.agg #[p,vi d.fin.marks.ins,vi d.fin.marks.move,y,z]∧iA G d.fin p y z|6=>v=(aM b1 6)|7=>v=aQ D.r|8=>v=(aJ 8).1∧∃ xs,bX 102 3 v d.revs.length xs (aJ 8).2∧bV G 3 (d.revs.map bL.dat) xs|9=>v=(aM b1 7)|10=>v=.agg #[aQ D.s1,aQ D.s2,aQ D.s3,aQ D.s4]|11=>∃ a' b' c' d',v=.agg #[a',b',c',d']∧zH G d.gU a' b' c' d'|_=>True) (fun m hm x y i v G hi hc h=>by
  have hm:m=2∨m=8:=by simpa using hm
  rcases hm with rfl|rfl
  ·(iterate 14 (rcases i with _|i;(first|exact h|exact absurd hi (by decide)|exact absurd hc (by decide))));exact trivial
  ·(iterate 14 (rcases i with _|i;(first|exact h|exact absurd hi (by decide)|exact absurd hc (by decide))));exact trivial
  ) H ?_ ?_ ?_
 ·clear H;refine aD ?_ ?_ ?_ ?_ (aD ?_ ?_ ?_ ?_ (aD ?_ ?_ ?_ ?_ (bM ?_ (bM ?_ cO))))
  ·intro aJ dD aP a w G1 dH _ _ aK hc hG HT hv;have H:=HT;clear aK;have Hb:=H.full;have H:=Hb;clear hc;refine kH H (Rf vO rfl ?_);clear H;intro a H;refine aC ⟨rfl,?_⟩;exact dw (by kernel_rfl) (dO aJ) rfl rfl HT Hb hG hv (fun _ _ h=>h) (rfl) H
  ·intro aJ dD aP a w G1 dH _ _ aK hc hG HT hv;have H:=HT;clear aK;have H:=H.aN (hv 0 3 (hc 0 (by decide)) rfl) rfl;have Hb:=H.full;have H:=Hb;clear hc;refine kH H (Rg lS rfl (aG hG (hga 0 _ rfl)) ?_);clear H;intro a H;refine aC ⟨rfl,?_⟩;exact dw (by kernel_rfl) (dO aJ) rfl rfl HT Hb hG hv (fun _ _ h=>h) (rfl) H
  ·intro _ _ _ _ _ _ _ _ hB;exact absurd hB (by decide)
  ·intro aJ dD aP a w G1 dH _ _ aK hc hG HT hv;have H:=HT;clear aK;have Hb:=H.full;have H:=Hb;clear hc;refine kH H (Rf Bq rfl ?_);clear H;intro a H;refine aC ⟨rfl,?_⟩;exact dw (by kernel_rfl) (dO aJ) rfl rfl HT Hb hG hv (fun _ _ h=>h) (rfl) H
  ·intro aJ dD aP a w G1 dH _ _ aK hc hG HT hv;have H:=HT;clear aK;have H:=H.aN (hv 3 6 (hc 3 (by decide)) rfl) rfl;have Hb:=H.full;have H:=Hb;clear hc;refine aR dB (cs:=[aQ D.p,vi d.fin.marks.ins,vi d.fin.marks.move,aQ D.d,aQ D.y]) H wn rfl rfl (fun j v hj=>H.hp.aH (aG hG (by rw [← hins,← hmv] at hj;exact nN hb1' 1 _ rfl j v hj))) rfl ?_;clear H;intro a H;refine aC ⟨rfl,?_⟩;exact dw (by kernel_rfl) (dO aJ) rfl rfl HT Hb hG hv (fun _ _ h=>h) (rfl) H
  ·intro aJ dD aP a w G1 dH _ _ aK hc hG HT hv;have H:=HT;clear aK;have H:=H.aN (hv 4 7 (hc 4 (by decide)) rfl) rfl;have Hb:=H.full;have H:=Hb;clear hc;refine s_call FB H wn rfl (Fy _ _ H.ro d.fin _ _ _ _ _ _ _ _ _ (hhd.mono hG) zh) rfl ?_;clear H;rintro v8 G8 a w nk oM H;refine aC ⟨rfl,?_⟩;exact dw (by kernel_rfl) (dO aJ) rfl rfl HT Hb hG hv oM (nk) H
  ·intro aJ dD aP a w G1 dH _ _ aK hc hG HT hv;have H:=HT;clear aK;have Hb:=H.full;have H:=Hb;clear hc;refine kH H (Rf zN rfl ?_);clear H;intro a H;refine aC ⟨rfl,?_⟩;exact dw (by kernel_rfl) (dO aJ) rfl rfl HT Hb hG hv (fun _ _ h=>h) (rfl) H
  ·intro aJ dD aP a w G1 dH _ _ aK hc hG HT hv;have H:=HT;clear aK;have H:=H.aN (hv 6 9 (hc 6 (by decide)) rfl) rfl;have Hb:=H.full;have H:=Hb;clear hc;refine kH H (Rg vw rfl (aG hG (hga 6 _ rfl)) ?_);clear H;intro a H;refine aC ⟨rfl,?_⟩;exact dw (by kernel_rfl) (dO aJ) rfl rfl HT Hb hG hv (fun _ _ h=>h) (rfl) H
  ·intro _ _ _ _ _ _ _ _ hB;exact absurd hB (by decide)
  ·intro aJ dD aP a w G1 dH _ _ aK hc hG HT hv;have H:=HT;clear aK;have Hb:=H.full;have H:=Hb;clear hc;refine kH H (Rf IJ rfl ?_);clear H;intro a H;refine aC ⟨rfl,?_⟩;exact dw (by kernel_rfl) (dO aJ) rfl rfl HT Hb hG hv (fun _ _ h=>h) (rfl) H
  ·intro aJ dD aP a w G1 dH _ _ aK hc hG HT hv;have H:=HT;clear aK;have H:=H.aN (hv 9 12 (hc 9 (by decide)) rfl) rfl;have Hb:=H.full;have H:=Hb;clear hc;refine aR uz (cs:=[aQ D.s1,aQ D.s2,aQ D.s3,aQ D.s4]) H wn rfl rfl (fun j v hj=>H.hp.aH (aG hG (nN hb1' 7 _ rfl j v hj))) rfl ?_;clear H;intro a H;refine aC ⟨rfl,?_⟩;exact dw (by kernel_rfl) (dO aJ) rfl rfl HT Hb hG hv (fun _ _ h=>h) (rfl) H
  ·intro aJ dD aP a w G1 dH _ _ aK hc hG HT hv;have H:=HT;clear aK;have H:=H.aN (hv 10 13 (hc 10 (by decide)) rfl) rfl;have Hb:=H.full;have H:=Hb;clear hc;refine s_call ahS H wn rfl (ahe _ _ H.ro d.gU _ _ _ _ (hst.mono hG) zs Hw.ln Hw.cn Hw.vn Hw.pl Hw.ll) rfl ?_;clear H;rintro v14 AJ a w rY xP H;refine aC ⟨rfl,?_⟩;exact dw (by kernel_rfl) (dO aJ) rfl rfl HT Hb hG hv xP (rY) H
  ·intro _ _ _ _ _ _ _ hB;exact absurd hB (by decide)
  intro _ _ _ _ _ _ _ hB;exact absurd hB (by decide)
 ·clear H;refine aD ?_ ?_ ?_ ?_ (aD ?_ ?_ ?_ ?_ (aD ?_ ?_ ?_ ?_ (bM ?_ (bM ?_ cO))))
  ·intro hB;exact absurd hB (by decide)
  ·intro hB;exact absurd hB (by decide)
  ·intro _ aJ dD aP a w G1 dH _ hc hG HT hv;have H:=HT;have H:=H.aN (hv (.bool false,[]) 1 4 (by decide) (hc 1 (by decide)) rfl) rfl;have Hb:=H.full;have H:=Hb;clear hc;refine gK SX (Li:=dD) (L:=[]) (H.cast (fZ _).symm) wn rfl (agU _ _ (yh H.ro) d.flow _ (hfl.mono hG) (by omega)) rfl ?_;clear H;rintro v5 G5 L5 a w ⟨xs5,anV,amH⟩ lZ H;have H:=H.perm vG;refine aC ⟨rfl,(v5,L5),?_⟩;exact Cx (by kernel_rfl) (dO (wH aJ 2 (v5,L5))) rfl HT Hb hG (fun j e h1 h2 h3=>hv (v5,L5) j e h1 h2 h3) lZ (⟨rfl,xs5,anV,amH⟩) H
  ·intro hB;exact absurd hB (by decide)
  ·intro hB;exact absurd hB (by decide)
  ·intro hB;exact absurd hB (by decide)
  ·intro hB;exact absurd hB (by decide)
  ·intro hB;exact absurd hB (by decide)
  ·intro _ aJ dD aP a w G1 dH _ hc hG HT hv;have H:=HT;have H:=H.aN (hv (.bool false,[]) 7 10 (by decide) (hc 7 (by decide)) rfl) rfl;have Hb:=H.full;have H:=Hb;clear hc;refine gK ZA (Li:=dD) (L:=[]) (H.cast (fZ _).symm) wn rfl (Yv _ _ (yh H.ro) _ _ _ _ (pJ.mono hG) (by simpa using zr)) rfl ?_;clear H;rintro v11 tC Fp a w ⟨JV,yV,I4⟩ mF H;rw [bO] at yV;have H:=H.perm vG;refine aC ⟨rfl,(v11,Fp),?_⟩;exact Cx (by kernel_rfl) (dO (wH aJ 8 (v11,Fp))) rfl HT Hb hG (fun j e h1 h2 h3=>hv (v11,Fp) j e h1 h2 h3) mF (⟨rfl,JV,yV,I4⟩) H
  ·intro hB;exact absurd hB (by decide)
  ·intro hB;exact absurd hB (by decide)
  ·intro hB;exact absurd hB (by decide)
  ·intro hB;exact absurd hB (by decide)
  intro hB;exact absurd hB (by decide)
 clear H;intro aJ a w G iY H hv
 simp only [pX,List.flatMap_cons,List.flatMap_nil,cond_true,fZ,jm] at H
 obtain ⟨u5,Gw,rD⟩:=hv 2 5 (by decide) rfl;(try dsimp only at rD);obtain ⟨h5,xf,Jq,UD⟩:=rD;obtain ⟨fA,fc,rfl,-,-⟩:=Jq.shape;have H:=H.gI Gw;obtain ⟨u8,Ai,nk⟩:=hv 5 8 (by decide) rfl;(try dsimp only at nk);obtain ⟨p8,y8,z8,rfl,I8⟩:=nk;obtain ⟨a1,a2,a3,rfl⟩:=I8.props.form;obtain ⟨a4,a5,a6,rfl⟩:=I8.bH.form;obtain ⟨a7,a8,a9,rfl⟩:=I8.layers.form;have H:=H.gI Ai;obtain ⟨WX,Gq,wZ⟩:=hv 8 11 (by decide) rfl;(try dsimp only at wZ);obtain ⟨h11,xr,Js,UE⟩:=wZ;obtain ⟨rA,rc,rfl,-,-⟩:=Js.shape;have H:=H.gI Gq;obtain ⟨u14,Ma,rY⟩:=hv 11 14 (by decide) rfl;(try dsimp only at rY);obtain ⟨lN,q14,y14,z14,rfl,LZ⟩:=rY;obtain ⟨c1,c2,c3,rfl⟩:=LZ.st.form;obtain ⟨c4,c5,c6,rfl⟩:=LZ.li.form;obtain ⟨c7,c8,c9,rfl⟩:=LZ.cm.form;obtain ⟨d1,d2,d3,rfl⟩:=LZ.va.form;have H:=H.gI Ma;clear hv;obtain ⟨⟨vF,LF⟩,eF⟩:∃ y,y=aJ 2:=⟨_,rfl⟩;obtain ⟨⟨vR,LR⟩,eR⟩:∃ y,y=aJ 8:=⟨_,rfl⟩;rw [← eF,← eR] at H;rw [← eF] at Jq h5;rw [← eR] at Js h11;dsimp only at H Jq Js h5 h11;subst h5;subst h11;rw [← jm] at H;have H:=H.perm (vG (l₁:=LF++LR) (l₂:=[_]));dsimp only [lca,bK] at H;refine jl aed [_,_,_,_,_,_,_,_,_,_,_] H wn rfl rfl rfl rfl ?_;clear H;intro a H;refine aY gV 0 (vs:=[_,_,_,_,_,_,_,_,_,_,_]) _ H wn rfl rfl rfl rfl rfl rfl rfl rfl ?_;clear H;intro w H;dsimp only [List.set,setRow] at H;refine aC ⟨rfl,?_⟩;refine K2 _ _ ?_;clear K2;refine cK ?_;refine (leave1 H results63 (.cons (nH gV (cs:=[_,_,_,_,_,_,_,_,_,_,_]) H rfl rfl (H.hp.bT 0 rfl rfl)) .nil) ?_).1;exact H.hp.kZ (L':=LF++LR) (Bd _ _) ⟨⟨(fA,d.flow.length,fc),(a1,a2,a3),(a4,a5,a6),(a7,a8,a9),(rA,d.revs.length,rc),(c1,c2,c3),(c4,c5,c6),(c7,c8,c9),(d1,d2,d3),d.fin.marks.ins,d.fin.marks.move⟩,rfl,xf,LF,xr,LR,rfl,Jq,UD,Js,UE,I8,rfl,rfl,LZ⟩
end Go.Proofs.YtdiflmikikiedaaGreat
