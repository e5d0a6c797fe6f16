/-
  What the claim stands on, part 3: Dk Dw Lsc Dm Dl Lfl Dv Lpc Scn By Lps Lcl Dst Sty Stz Dsc Mi Ro Ri Chn Chk Dsv Mq Nck Cid.
-/
import Derived.Test.YtdiflmikikiedaaGreatWjb
import Derived.Lib.ConvBytes
namespace Go.Proofs.YtdiflmikikiedaaGreat
set_option linter.all false
open Go.Proofs.Tryz
open Go.RowKit
section
section
variable {N:Nat} {D:List Deferred} {w0:World} {F:Nat->Prop} {G0 G G1 G2:GH} {L L1:OL} {T Xs:List (Nat × ah)}
variable {r:Option Nat} {P:Program} {Q:Exit->Act->World->Prop} {l:List Oper} {a a':Act} {w w':World}
theorem amq {id:Nat} (hm:P.follows .mixedOrders=true) (bL:List (List Nat)) (B:List Nat) (hk:yH l bL=true) (hB:wV l bL B=true) (m:Nat) (Nh:B.contains m=false) (ob:Obj) (pr:Nat->Nat->ah->GH->Prop)
  (Nq:∀ b b' i v G,i≠m->pr b i v G->pr b' i v G) (H:St N D w0 F G0 G L T a w)
  (hstep:allI (fun i o=>∀ b L' S a w G1,(∀ x,x∈L->x∈L')->B.contains i=false->Nat.beq i m=false->S i=false->(∀ j∈bL.getD i [],S j=true)->(∀ k o,G k=some o->G1 k=some o)->St N D w0 F G0 G1 L' T a w->(∀ i d,S i=true->eB l i=some d->∃ v,a.tmps[d]?=some v∧pr b i v G1) ->
   WL r P l.toArray (fun e a' w'=>e=.normal∧DX N D w0 F G0 G L' T l (pr b) (dB S i) a' w') [o] a w) 0 l)
  (hmid:∀ o S a w G1,l[m]?=some o->S m=false->(∀ j∈bL.getD m [],S j=true)->(∀ k o,G k=some o->G1 k=some o)->St N D w0 F G0 G1 L T a w->(∀ b i d,i≠m->S i=true->eB l i=some d->∃ v,a.tmps[d]?=some v∧pr b i v G1) ->
   WL r P l.toArray (fun e a' w'=>e=.normal∧∃ b,DX N D w0 F G0 G ((b,ob) :: L) T l (pr b) (dB S m) a' w') [o] a w)
  (hend:∀ b a w G1,(∀ k o,G k=some o->G1 k=some o)->St N D w0 F G0 G1 ((b,ob) :: L) T a w->(∀ i d,B.contains i=false->eB l i=some d->∃ v,a.tmps[d]?=some v∧pr b i v G1)->WL r P l.toArray (fun e a w=>e=.normal∧Q .normal a w) (qC l B) a w)
  (hml:Nat.blt m l.length=true):WP r P (.region id l.toArray true) Q a w:=by
 refine GR hm bL B hk hB (fun S a w=>∃ b L',(S m=false->L'=L)∧(S m=true->L'=(b,ob) :: L)∧DX N D w0 F G0 G L' T l (pr b) S a w)
  ⟨0,L,fun _=>rfl,fun h=>absurd (show false=true from h) (by decide),G,fun _ _ h=>h,H.move H.hp.drew,fun _ _ h=>absurd (show false=true from h) (by decide)⟩ ?_ ?_
 ·rintro i o S a w ho hb aO kI hdesc ⟨b,L',h1,h2,G1,hG,HS,hv⟩
  by_cases him:i=m
  ·subst him
   have e:=h1 aO;subst e
   have h:=hmid o S a w G1 ho aO kI hG HS fun b' j d hj hSj hd=>by
    obtain ⟨v,hv1,hv2⟩:=hv j d hSj hd
    exact ⟨v,hv1,Nq b b' j v _ hj hv2⟩
   have e1:dB S i i=true:=aG rfl
   exact oN (fun e a' w' ⟨he,b',hD⟩=>⟨he,b',_,fun h=>absurd (e1.symm.trans h) (by decide),fun _=>rfl,hD⟩) h
  ·have h:=zD hstep i o ho
   rw [gI] at h
   have e:dB S i m=S m:=av (fun h=>him h.symm)
   exact oN (fun e' a' w' ⟨he,hD⟩=>⟨he,b,L',fun h=>h1 (e ▸ h),fun h=>h2 (e ▸ h),hD⟩) (h b L' S a w G1 (fun x hx=>by
    cases hS:S m with
    | false=>rw [h1 hS];exact hx
    | true=>rw [h2 hS];exact gK _ hx) hb (uK him) aO kI hG HS hv)
 ·rintro S a w hall Ko ⟨b,L',h1,h2,G1,hG,HS,hv⟩
  have Ki:S m=true:=hall m (Eq.mp Nat.blt_eq hml) Nh
  have e:=h2 Ki;subst e
  exact hend b a w G1 hG HS fun j d hb hd=>hv j d (hall j (uP hd) hb) hd
end
end
section
section
variable {N:Nat} {D:List Deferred} {w0:World} {F:Nat->Prop} {G0 G G1 G2:GH} {L L1 L2:OL} {T Xs:List (Nat × ah)}
variable {r:Option Nat} {P:Program} {Q:Exit->Act->World->Prop} {l:List Oper} {a a':Act} {w w':World}
theorem aoc {pr:Nat->ah->GH->Prop} {S:Nat->Bool} {i:Nat} (hi:eB l i=none) (HT:St N D w0 F G0 G1 L T a w) (hG:∀ k o,G k=some o->G1 k=some o) (hv:∀ i d,S i=true->eB l i=some d->∃ v,a.tmps[d]?=some v∧pr i v G1)
  (H:St N D w0 F G0 G1 L2 (Xs++full N a) a w'):DX N D w0 F G0 G L2 T l pr (dB S i) a w' :=
 ⟨G1,hG,HT.move H.hp,fun j e hj he=>hv j e (by
  unfold dB at hj
  by_cases hji:j=i
  ·subst hji;rw [hi] at he;cases he
  ·rwa [av hji] at hj) he⟩
theorem adl {id:Nat} (hm:P.follows .mixedOrders=true) (bL:List (List Nat)) (B:List Nat) (hk:yH l bL=true) (hB:wV l bL B=true) (m:Nat) (Nh:B.contains m=false) (pr:Nat->ah->GH->Prop) (ix:Nat) (ob:Nat × Obj)
  (H:St N D w0 F G0 G L T a w)
  (hstep:allI (fun i o=>∀ S a w G1,B.contains i=false->Nat.beq i m=false->S i=false->(∀ j∈bL.getD i [],S j=true)->(∀ k o,G k=some o->G1 k=some o)->St N D w0 F G0 G1 L T a w->(∀ i d,S i=true->eB l i=some d->∃ v,a.tmps[d]?=some v∧pr i v G1) ->
   WL r P l.toArray (fun e a' w'=>e=.normal∧DX N D w0 F G0 G L T l pr (dB S i) a' w') [o] a w) 0 l)
  (hmid:∀ o S a w G1,l[m]?=some o->S m=false->(∀ j∈bL.getD m [],S j=true)->(∀ k o,G k=some o->G1 k=some o)->St N D w0 F G0 G1 L T a w->(∀ i d,S i=true->eB l i=some d->∃ v,a.tmps[d]?=some v∧pr i v G1) ->
   WL r P l.toArray (fun e a' w'=>e=.normal∧DX N D w0 F G0 G (L.set ix ob) T l pr (dB S m) a' w') [o] a w)
  (hstep2:allI (fun i o=>∀ S a w G1,(B.contains i || (bL.getD m []).contains i)=false->Nat.beq i m=false->S i=false->(∀ j∈bL.getD i [],S j=true)->(∀ k o,G k=some o->G1 k=some o)->St N D w0 F G0 G1 (L.set ix ob) T a w->(∀ i d,S i=true->eB l i=some d->∃ v,a.tmps[d]?=some v∧pr i v G1) ->
   WL r P l.toArray (fun e a' w'=>e=.normal∧DX N D w0 F G0 G (L.set ix ob) T l pr (dB S i) a' w') [o] a w) 0 l)
  (hend:∀ a w G1,(∀ k o,G k=some o->G1 k=some o)->St N D w0 F G0 G1 (L.set ix ob) T a w->(∀ i d,B.contains i=false->eB l i=some d->∃ v,a.tmps[d]?=some v∧pr i v G1)->WL r P l.toArray (fun e a w=>e=.normal∧Q .normal a w) (qC l B) a w)
  (hml:Nat.blt m l.length=true):WP r P (.region id l.toArray true) Q a w:=by
 refine GR hm bL B hk hB (fun S a w=>(S m=false∧DX N D w0 F G0 G L T l pr S a w)∨(S m=true∧DX N D w0 F G0 G (L.set ix ob) T l pr S a w))
  (.inl ⟨rfl,G,fun _ _ h=>h,H.move H.hp.drew,fun _ _ h=>absurd (show false=true from h) (by decide)⟩) ?_ ?_
 ·rintro i o S a w ho hb aO kI hdesc hX
  by_cases him:i=m
  ·subst him
   rcases hX with ⟨_,G1,hG,HS,hv⟩|⟨h1,_⟩
   ·have h:=hmid o S a w G1 ho aO kI hG HS hv
    have e1:dB S i i=true:=aG rfl
    exact oN (fun e a' w' ⟨he,hD⟩=>⟨he,.inr ⟨e1,hD⟩⟩) h
   ·rw [h1] at aO;cases aO
  ·have e:dB S i m=S m:=av (fun h=>him h.symm)
   rcases hX with ⟨h1,G1,hG,HS,hv⟩|⟨h1,G1,hG,HS,hv⟩
   ·have h:=zD hstep i o ho
    rw [gI] at h
    exact oN (fun e' a' w' ⟨he,hD⟩=>⟨he,.inl ⟨e.trans h1,hD⟩⟩) (h S a w G1 hb (uK him) aO kI hG HS hv)
   ·have h:=zD hstep2 i o ho
    rw [gI] at h
    have hnc:(B.contains i || (bL.getD m []).contains i)=false:=by
     rw [hb,Bool.false_or]
     cases hc2:(bL.getD m []).contains i with
     | false=>rfl
     | true=>have:=hdesc m (Eq.mp Nat.blt_eq hml) (qM.1 hc2);rw [h1] at this;cases this
    exact oN (fun e' a' w' ⟨he,hD⟩=>⟨he,.inr ⟨e.trans h1,hD⟩⟩) (h S a w G1 hnc (uK him) aO kI hG HS hv)
 ·rintro S a w hall Ko hX
  have Ki:S m=true:=hall m (Eq.mp Nat.blt_eq hml) Nh
  rcases hX with ⟨h1,_⟩|⟨h1,G1,hG,HS,hv⟩
  ·rw [h1] at Ki;cases Ki
  ·exact hend a w G1 hG HS fun j d hb hd=>hv j d (hall j (uP hd) hb) hd
end
end
theorem avZ:liesAt prog prog.depth 340 (7 / prog.cellsOf 340) 2 172 1=true:=by kernel_rfl
theorem SG:Ty prog 5 1 1 [.int .u8 0] false:=⟨by kernel_rfl,by kernel_rfl⟩
abbrev iN (b:Nat) (s:ByteArray) (i:Int) (p v q:ah) (pl e:Int):Nat × Obj:=(b,.cells #[.string s,vi i,p,v,q,vi pl,vi e] 340 (0,0))
theorem azB (G:GH) (L:OL) (w0:World) (b:Nat) (s:ByteArray) (i:Int) (A:Option Addr) (n c:Nat) (B:Option Addr) (m d:Nat) (pl e:Int) (hO:gH G (iN b s i (.pointer none) (.slice A n c) (.slice B m d) pl e :: L) w0) :
  Calls prog 154 #[(aJ b 2)] w0 (fU w0 G (iN b s i (.pointer none) (.slice A n c) (.slice B m d) pl e :: L) fun u G' L'=>L'=iN b s i (aJ b 2) (.slice A n c) (.slice B m d) pl e :: L∧G'=G):=by
 refine jc (N:=20) (T:=[(0,_)]) func154 rfl ntmps154 rfl rfl hO ?_;intro a H;refine kP H (SR fun _ K1=>Rm rfl (Rk rfl (bq MP Ob 0 rfl rfl ?_)));clear H;intro a H;refine ajs Oe H wn rfl rfl ?_;clear H;intro a H;refine K1 _ _ ?_;clear K1;refine jS H rfl ?_ ?_
 ·intro h6
  refine kP H (SC (Rm rfl (Rm rfl ?_)));clear H;intro a H;refine azx Oe akc Y1 H wn rfl 0 rfl rfl rfl ?_;clear H;intro a H;refine azn (xs:=[.tmp 9]) (awO _) H wn rfl rfl ?_;clear H;intro a H;refine azh akc Oe Y1 H wn rfl 0 rfl avZ rfl ?_;clear H;intro a H;refine kH H (Rk rfl (Rf MP rfl ?_));clear H;intro a H;refine bC Ob 0 (vs:=[_]) H wn rfl ?_;clear H;intro w H;refine aD ?_;refine (leave0 H results154 ?_).2;exact H.hp.fQ ⟨rfl,rfl⟩
 intro h6
 exact absurd h6 (by decide)
theorem azC (G:GH) (L:OL) (w0:World) (b:Nat) (s:ByteArray) (i:Int) (A:Option Addr) (n c:Nat) (B:Option Addr) (m d:Nat) (pl e:Int) (hO:gH G (iN b s i (aJ b 2) (.slice A n c) (.slice B m d) pl e :: L) w0) :
  Calls prog 154 #[(aJ b 2)] w0 (fU w0 G (iN b s i (aJ b 2) (.slice A n c) (.slice B m d) pl e :: L) fun u G' L'=>L'=iN b s i (aJ b 2) (.slice A n c) (.slice B m d) pl e :: L∧G'=G):=by
 refine jc (N:=20) (T:=[(0,_)]) func154 rfl ntmps154 rfl rfl hO ?_;intro a H;refine kP H (SR fun _ K1=>Rm rfl (Rk rfl (bq MP Ob 0 rfl rfl ?_)));clear H;intro a H;refine ajs Oe H wn rfl rfl ?_;clear H;intro a H;refine K1 _ _ ?_;clear K1;refine jS H rfl ?_ ?_
 ·intro h6
  exact absurd h6 (by simp)
 intro h6
 refine kP H (SR fun _ K2=>Rm rfl (Rk rfl (bq MP Ob 0 rfl rfl (Rm rfl ?_))));clear H;intro a H;refine azl Oe Y1 H wn rfl rfl rfl ?_;clear H;intro a H;refine K2 _ _ ?_;clear K2;refine jS H rfl ?_ ?_
 ·intro h19
  exact absurd h19 (by decide)
 intro h19
 refine iB ?_;refine (leave0 H results154 ?_).2;exact H.hp.fQ ⟨rfl,rfl⟩
theorem azD (G:GH) (L:OL) (w0:World) (b:Nat) (s:ByteArray) (i:Int) (p:ah) (A:Option Addr) (n c:Nat) (B:Option Addr) (m d:Nat) (pl e:Int) (hp:p=.pointer none∨p=(aJ b 2)) (hO:gH G (iN b s i p (.slice A n c) (.slice B m d) pl e :: L) w0) :
  Calls prog 154 #[(aJ b 2)] w0 (fU w0 G (iN b s i p (.slice A n c) (.slice B m d) pl e :: L) fun u G' L'=>L'=iN b s i (aJ b 2) (.slice A n c) (.slice B m d) pl e :: L∧G'=G):=by
 rcases hp with rfl|rfl
 ·exact azB G L w0 b s i A n c B m d pl e hO
 exact azC G L w0 b s i A n c B m d pl e hO
theorem akC (G:GH) (Lp Lo:OL) (w0:World) (b:Nat) (s:ByteArray) (i:Int) (p v:ah) (B:Option Addr) (m d:Nat) (pl e:Int) (n:Nat) (xs:List ah) (c:Int) (hp:p=.pointer none∨p=(aJ b 2)) (hO:gH G (iN b s i p v (.slice B m d) pl e :: (Lp++Lo)) w0) (hrow:cu 5 1 v n xs Lo) (hn:n<=4294967296) :
  Calls prog 273 #[(aJ b 2),.int .u8 c] w0 (fU w0 G (iN b s i p v (.slice B m d) pl e :: (Lp++Lo)) fun u G' L'=>∃ v' kD,L'=iN b s i (aJ b 2) v' (.slice B m d) pl e :: (Lp++kD)∧cu 5 1 v' (n+1) (xs++[.int .u8 c]) kD∧G'=G):=by
 have hml:maxLen=9223372036854775807:=rfl;obtain ⟨A,c0,rfl,-,-⟩:=hrow.shape;obtain ⟨Lt,uf⟩:∃ x,x=Lp++Lo:=⟨_,rfl⟩;rw [<- uf] at hO |-;refine jc (N:=17) (T:=[(0,_),(1,_)]) func273 rfl ntmps273 rfl rfl hO ?_;intro a H;refine kP H (SR fun _ K1=>aj K1 rfl (SR fun _ K2=>Rm rfl ?_));clear H K1;intro a H;refine gy aoQ (Li:=[]) (L:=iN b s i p _ (.slice B m d) pl e :: Lt) H wn rfl (azD _ _ _ b s i p A n c0 B m d pl e hp (Hp.owns (Li:=[]) H.hp)) rfl ?_;clear H;rintro v6 _ L6 a w ⟨rfl,rfl⟩ Cz H;dsimp only [List.nil_append] at H;refine K2 _ _ ?_;clear K2;refine kP H (SR fun _ K3=>Rm rfl (Rm rfl (Rk rfl (bq JR Lb 0 rfl rfl (Rm rfl ?_)))));clear H;intro a H;refine iT IX SG [_] [_] H wn rfl rfl rfl rfl rfl (by intro i q h;match i,h with|0,h=>exact h|n+1,h=>simp at h) rfl rfl ?_;clear H;intro b13 a w Qo H;subst uf;have H:=St.un (A:=[_,_]) (B:=Lp) (C:=Lo) H;refine oh (Li:=[_,_]++Lp) (Lo:=Lo) (news:=[.int .u8 c]) IX SG rfl rfl H wn rfl rfl hrow rfl (H.hp.dx 0 rfl rfl) rfl (by omega) (by omega) rfl ?_;clear H;intro v14 alb a w Nt H;obtain ⟨Tg,c14,rfl,-,-⟩:=Nt.shape;have H:=H.assoc;dsimp only [lca,bJ] at H;refine kH H (Rk rfl (Rf JR rfl ?_));clear H;intro a H;refine bC Lb 1 (vs:=[_]) H wn rfl ?_;clear H;intro w H;refine K3 _ _ ?_;clear K3;exact kP H (SR fun _ K4=>aj K4 rfl (LR results273 rfl fun H=>H.hp.jY (L':=iN b s i _ _ _ pl e :: (Lp++alb)) (Dn _ _) ⟨_,_,rfl,Nt,rfl⟩))
theorem aAd (G:GH) (L:OL) (w0:World) (b:Nat) (s:ByteArray) (i:Int) (p:ah) (A:Option Addr) (n c:Nat) (B:Option Addr) (m d:Nat) (pl e:Int) (hO:gH G (iN b s i p (.slice A n c) (.slice B m d) pl e :: L) w0) :
  Calls prog 279 #[(aJ b 2)] w0 (fU w0 G (iN b s i p (.slice A n c) (.slice B m d) pl e :: L) fun u G' L'=>u=vi n∧L'=iN b s i p (.slice A n c) (.slice B m d) pl e :: L∧G'=G):=by
 refine jc (N:=8) (T:=[(0,_)]) func279 rfl ntmps279 rfl rfl hO ?_;intro a H;exact kP H (SR fun _ K1=>aj K1 rfl (SR fun _ K2=>Rm rfl (Rk rfl (bq JR Lb 0 rfl rfl (Rl IX rfl (aj K2 rfl (LR results279 rfl fun H=>H.hp.fQ ⟨rfl,rfl,rfl⟩)))))))
theorem aAu (G:GH) (L:OL) (w0:World) (b:Nat) (s:ByteArray) (i:Int) (p:ah) (A:Option Addr) (n c:Nat) (B:Option Addr) (m d:Nat) (pl e:Int) (hO:gH G (iN b s i p (.slice A n c) (.slice B m d) pl e :: L) w0) :
  Calls prog 280 #[(aJ b 2)] w0 (fU w0 G (iN b s i p (.slice A n c) (.slice B m d) pl e :: L) fun u G' L'=>L'=iN b s i (.pointer none) (.slice none 0 0) (.slice B m d) pl e :: L∧G'=G):=by
 refine jc (N:=8) (T:=[(0,_)]) func280 rfl ntmps280 rfl rfl hO ?_;intro a H;refine kP H (SR fun _ K1=>Rm rfl (Rk rfl (Rf MP rfl ?_)));clear H;intro a H;refine bC Ob 0 (vs:=[_]) H wn rfl ?_;clear H;intro w H;refine K1 _ _ ?_;clear K1;refine kP H (SC (Rm rfl (Rk rfl (Rf JR rfl ?_))));clear H;intro a H;refine bC Lb 0 (vs:=[_]) H wn rfl ?_;clear H;intro w H;refine aD ?_;refine (leave0 H results280 ?_).2;exact H.hp.fQ ⟨rfl,rfl⟩
theorem aAv (G:GH) (Lp Lo:OL) (w0:World) (b:Nat) (s:ByteArray) (i:Int) (p v:ah) (B:Option Addr) (m d:Nat) (pl e:Int) (l:List UInt8) (hO:gH G (iN b s i p v (.slice B m d) pl e :: (Lp++Lo)) w0) (hrow:cu 5 1 v l.length (Lib.byteCells l) Lo) (h0:l≠[]) :
  Calls prog 94 #[(aJ b 2)] w0 (fU w0 G (iN b s i p v (.slice B m d) pl e :: (Lp++Lo)) fun u G' L'=>u=.string ⟨l.toArray⟩∧L'=iN b s i p v (.slice B m d) pl e :: Lp):=by
 rcases hrow.2 with ⟨-,h,-⟩|⟨b2,cap,cur,rfl,rfl,hc1,hc2,hc3,hc4⟩
 ·exact absurd (List.eq_nil_of_length_eq_zero h) h0
 have hl0:l.length≠0:=fun h=>h0 (List.eq_nil_of_length_eq_zero h);have hml:maxLen=9223372036854775807:=rfl;obtain ⟨Lt,uf⟩:∃ x,x=Lp++[(b2,Obj.cells cur 5 (0,0))]:=⟨_,rfl⟩;rw [<- uf] at hO |-;refine jc (N:=14) (T:=[(0,_)]) func94 rfl ntmps94 rfl rfl hO ?_;intro a H;refine kP H (SR fun _ K1=>aj K1 rfl (SQ fun _ K2=>?_));clear H K1;intro a H;have H:=H.sub (T':=[(0,_)]) ⟨rfl,aB⟩;refine dI hmx [[],[0],[0,1],[0,1,2],ra 0 4,[],[5],[5,6],[5,6,7],ra 5 4,ra 0 10,ra 0 11] [10,11] (by kernel_rfl) [_,_,_,.slice (some ⟨b2,0,none⟩) l.length cap,(aJ b2 0),_,_,_,.slice (some ⟨b2,0,none⟩) l.length cap,_] H (ay (Z0 rfl (Rm rfl)) (Z1 0 3 rfl (Rk rfl)) (Z1 1 4 rfl (Rf JR rfl)) (Z1 2 5 rfl (Ro Lb 0 rfl)) (ay ?_ (Z0 rfl (Rm rfl)) (Z1 5 8 rfl (Rk rfl)) (Z1 6 9 rfl (Rf JR rfl)) (ay (Z1 7 10 rfl (Ro Lb 0 rfl)) (Z1 8 11 rfl (Rl IX rfl)) (bR rfl) (bR rfl) cK))) ?_
 ·refine gZ 3 6 rfl rfl fun _ a w G1 hG HT H fin=>?_;refine azt H wn rfl (by omega) rfl ?_;exact jk
 clear H;intro a w G nJ H hv;have H:=H.aM (hv 4 7 rfl rfl) rfl;have H:=H.aM (hv 9 12 rfl rfl) rfl;clear hv;subst uf;have H:=H.perm (List.Perm.cons _ pK);dsimp only [lca,bJ] at H;refine azy (i:=1) l aAH amN h0 (by omega) H wn rfl rfl rfl (by rw [<- hc4,Nat.mul_one]) rfl ?_;clear H;intro fz a w H;dsimp only [List.set] at H;refine kH H (Ra rfl ?_);clear H;intro a H;refine aD ⟨rfl,?_⟩;refine K2 _ _ ?_;clear K2;refine lr H results94 rfl ?_;exact H.hp.jY (L':=iN b s i _ _ _ pl e :: Lp) (List.Sublist.cons_cons _ (Dn _ _)) ⟨rfl,rfl⟩
section
section
variable {N:Nat} {D:List Deferred} {w0:World} {F:Nat->Prop} {G0 G G1 G2:GH} {L L1 L2:OL} {T Xs:List (Nat × ah)}
variable {r:Option Nat} {P:Program} {Q:Exit->Act->World->Prop} {l:List Oper} {a a':Act} {w w':World}
theorem DX.perm {pr:Nat->ah->GH->Prop} {S:Nat->Bool} (h:DX N D w0 F G0 G L1 T l pr S a w) (hp:L1.Perm L2):DX N D w0 F G0 G L2 T l pr S a w:=by
 obtain ⟨G1,hG,HS,hv⟩:=h
 exact ⟨G1,hG,HS.perm hp,hv⟩
end
end
section
section
variable {N:Nat} {D:List Deferred} {w0:World} {F:Nat->Prop} {G0 G G1 G2:GH} {L L1 L2:OL} {T Xs:List (Nat × ah)}
variable {r:Option Nat} {P:Program} {Q:Exit->Act->World->Prop} {l:List Oper} {a a':Act} {w w':World}
theorem xK {pr:Nat->ah->GH->Prop} {S:Nat->Bool} {i d:Nat} {v:ah} (hok:pQ l T i=true) (kr:∀ i v (G G':GH),(∀ k o,G k=some o->G' k=some o)->pr i v G->pr i v G') (hi:eB l i=some d)
  (HT:St N D w0 F G0 G1 L T a w) (Hb:St N D w0 F G0 G1 L (Xs++full N a) a w) (hG:∀ k o,G k=some o->G1 k=some o) (hv:∀ j d,j≠i->S j=true->eB l j=some d->∃ v,a.tmps[d]?=some v∧pr j v G1)
  (hG2:∀ k o,G1 k=some o->G2 k=some o) (hp:pr i v G2) (H:St N D w0 F G0 G2 L1 ((d,v) :: (Xs++full N a)) a' w'):DX N D w0 F G0 G L1 T l pr (dB S i) a' w':=by
 have hok1:=hok
 rw [pQ,hi] at hok1
 simp only [ji,Option.isNone_iff_eq_none,jI,vD] at hok1
 have hsame:∀ t,t≠d->a'.tmps[t]?=a.tmps[t]?:=by
  intro t ht
  by_cases hlt:t < N
  ·have h1:∃ u,lk (Xs++full N a) t=some u:=by
    rw [Q7]
    cases lk Xs t with
    | some u=>exact ⟨u,rfl⟩
    | none=>exact ⟨_,Q8 a hlt⟩
   obtain ⟨u,hu⟩:=h1
   rw [Hb.get t u hu,H.get t u (by rw [wQ (Ne.symm ht)];exact hu)]
  ·rw [Array.getElem?_eq_none (by rw [H.oG];omega),Array.getElem?_eq_none (by rw [Hb.oG];omega)]
 refine ⟨G2,fun k o hk=>hG2 k o (hG k o hk),⟨H.oG,fun t u ht=>?_,H.uO,H.hp⟩,fun j e hj he=>?_⟩
 ·rw [hsame t (fun e=>by rw [e,hok1.1] at ht;cases ht)]
  exact HT.get t u ht
 ·by_cases hji:j=i
  ·subst hji
   rw [hi] at he
   simp only [pE] at he
   subst he
   exact ⟨v,H.get d v (xS _ _ _),hp⟩
  ·have hSj:S j=true:=by unfold dB at hj;rwa [av hji] at hj
   obtain ⟨u,hu1,hu2⟩:=hv j e hji hSj he
   have hne:e≠d:=by
    intro e'
    subst e'
    have h2:=hok1.2 j (uP he)
    rw [uK (fun h=>hji h.symm),he] at h2
    simp at h2
   exact ⟨u,by rw [hsame e hne];exact hu1,kr j u _ _ hG2 hu2⟩
theorem amr {id:Nat} {κ:Type} (k0:κ) (hm:P.follows .mixedOrders=true) (bL:List (List Nat)) (B:List Nat) (hk:yH l bL=true) (hB:wV l bL B=true) (m1 m2 m3:Nat) (aCu:B.contains m1=false) (aCv:B.contains m2=false) (atZ:B.contains m3=false) (hne:Nat.beq m1 m2=false) (agO:Nat.beq m2 m3=false) (hne1:Nat.beq m1 m3=false) (h12:(bL.getD m2 []).contains m1=true) (gQ:(bL.getD m3 []).contains m1=true) (h23:(bL.getD m3 []).contains m2=true)
  (C L2:OL) (ob:Obj) (L3:Nat->κ->OL) (hC:∀ x,x∈C->x∈L) (hC2:∀ x,x∈C->x∈L2) (hC3:∀ b k x,x∈C->x∈L3 b k) (pr:Nat->κ->Nat->ah->GH->Prop)
  (Nq:∀ b b' k i v G,Nat.beq i m2=false->(bL.getD i []).contains m2=false->pr b k i v G->pr b' k i v G)
  (aus:∀ b k k' i v G,Nat.beq i m3=false->(bL.getD i []).contains m3=false->pr b k i v G->pr b k' i v G)
  (H:St N D w0 F G0 G L T a w)
  (hstep:allI (fun i o=>∀ b k L' S a w G1,(∀ x,x∈C->x∈L')->B.contains i=false->Nat.beq i m1=false->Nat.beq i m2=false->Nat.beq i m3=false->S i=false->(∀ j∈bL.getD i [],S j=true)->(∀ k o,G k=some o->G1 k=some o)->St N D w0 F G0 G1 L' T a w->(∀ i d,S i=true->eB l i=some d->∃ v,a.tmps[d]?=some v∧pr b k i v G1) ->
   WL r P l.toArray (fun e a' w'=>e=.normal∧DX N D w0 F G0 G L' T l (pr b k) (dB S i) a' w') [o] a w) 0 l)
  (aua:∀ o b k S a w G1,l[m1]?=some o->S m1=false->(∀ j∈bL.getD m1 [],S j=true)->(∀ k o,G k=some o->G1 k=some o)->St N D w0 F G0 G1 L T a w->(∀ i d,i≠m1->S i=true->eB l i=some d->∃ v,a.tmps[d]?=some v∧pr b k i v G1) ->
   WL r P l.toArray (fun e a' w'=>e=.normal∧DX N D w0 F G0 G L2 T l (pr b k) (dB S m1) a' w') [o] a w)
  (aub:∀ o k S a w G1,l[m2]?=some o->S m2=false->(∀ j∈bL.getD m2 [],S j=true)->(∀ k o,G k=some o->G1 k=some o)->St N D w0 F G0 G1 L2 T a w->(∀ b i d,i≠m2->S i=true->eB l i=some d->∃ v,a.tmps[d]?=some v∧pr b k i v G1) ->
   WL r P l.toArray (fun e a' w'=>e=.normal∧∃ b,DX N D w0 F G0 G ((b,ob) :: L2) T l (pr b k) (dB S m2) a' w') [o] a w)
  (auc:∀ o b S a w G1,l[m3]?=some o->S m3=false->(∀ j∈bL.getD m3 [],S j=true)->(∀ k o,G k=some o->G1 k=some o)->St N D w0 F G0 G1 ((b,ob) :: L2) T a w->(∀ k i d,i≠m3->S i=true->eB l i=some d->∃ v,a.tmps[d]?=some v∧pr b k i v G1) ->
   WL r P l.toArray (fun e a' w'=>e=.normal∧∃ k,DX N D w0 F G0 G (L3 b k) T l (pr b k) (dB S m3) a' w') [o] a w)
  (hend:∀ b k a w G1,(∀ k o,G k=some o->G1 k=some o)->St N D w0 F G0 G1 (L3 b k) T a w->(∀ i d,B.contains i=false->eB l i=some d->∃ v,a.tmps[d]?=some v∧pr b k i v G1)->WL r P l.toArray (fun e a w=>e=.normal∧Q .normal a w) (qC l B) a w)
  (Xh:Nat.blt m2 l.length=true) (Xi:Nat.blt m3 l.length=true):WP r P (.region id l.toArray true) Q a w:=by
 have aip:m1≠m2:=fun e=>by subst e;rw [Nat.beq_refl] at hne;cases hne
 have air:m2≠m3:=fun e=>by subst e;rw [Nat.beq_refl] at agO;cases agO
 have aiq:m1≠m3:=fun e=>by subst e;rw [Nat.beq_refl] at hne1;cases hne1
 refine GR hm bL B hk hB (fun S a w=>(S m2=true->S m1=true)∧(S m3=true->S m2=true)∧∃ b k L',L'=(bif S m3 then L3 b k else bif S m2 then (b,ob) :: L2 else bif S m1 then L2 else L)∧DX N D w0 F G0 G L' T l (pr b k) S a w)
  ⟨fun h=>h,fun h=>h,0,k0,L,rfl,G,fun _ _ h=>h,H.move H.hp.drew,fun _ _ h=>absurd (show false=true from h) (by decide)⟩ ?_ ?_
 ·rintro i o S a w ho hb aO kI hdesc ⟨aum,aun,b,k,L',hL,G1,hG,HS,hv⟩
  have hsub:∀ x,x∈C->x∈L':=fun x hx=>by
   rw [hL]
   cases S m3 with
   | true=>exact hC3 b k x hx
   | false=>cases S m2 with
    | true=>exact gK _ (hC2 x hx)
    | false=>cases S m1 with
     | true=>exact hC2 x hx
     | false=>exact hC x hx
  have hno:∀ j,j < l.length->S j=true->(bL.getD j []).contains i=false:=fun j hjl hj=>by
   cases hc:(bL.getD j []).contains i with
   | false=>rfl
   | true =>
    have:=hdesc j hjl (by simpa using hc)
    rw [this] at hj;cases hj
  by_cases h1:i=m1
  ·subst h1
   have hS2:S m2=false:=hdesc m2 (Eq.mp Nat.blt_eq Xh) (by simpa using h12)
   have J3:S m3=false:=hdesc m3 (Eq.mp Nat.blt_eq Xi) (by simpa using gQ)
   rw [J3,hS2,aO] at hL
   subst hL
   have h:=aua o b k S a w G1 ho aO kI hG HS fun j d hj hSj hd=>hv j d hSj hd
   have e2:dB S i m2=S m2:=av (fun e=>aip e.symm)
   have e3:dB S i m3=S m3:=av (fun e=>aiq e.symm)
   refine oN (fun e a' w' ⟨he,hD⟩=>⟨he,fun _=>aG rfl,fun h=>(by rw [e3,J3] at h;cases h),b,k,_,?_,hD⟩) h
   rw [show dB S i i=true from aG rfl,e2,e3,hS2,J3]
   rfl
  ·by_cases h2:i=m2
   ·subst h2
    have hS1:S m1=true:=kI m1 (by simpa using h12)
    have J3:S m3=false:=hdesc m3 (Eq.mp Nat.blt_eq Xi) (by simpa using h23)
    rw [J3,aO,hS1] at hL
    subst hL
    have e1:dB S i m1=S m1:=av aip
    have e3:dB S i m3=S m3:=av (fun e=>air e.symm)
    have h:=aub o k S a w G1 ho aO kI hG HS fun b' j d hj hSj hd=>by
     obtain ⟨v,hv1,hv2⟩:=hv j d hSj hd
     exact ⟨v,hv1,Nq b b' k j v _ (uK hj) (hno j (uP hd) hSj) hv2⟩
    refine oN (fun e a' w' ⟨he,b',hD⟩=>⟨he,fun _=>by rw [e1];exact hS1,fun _=>aG rfl,b',k,_,?_,hD⟩) h
    rw [show dB S i i=true from aG rfl,e3,J3];rfl
   ·by_cases h3:i=m3
    ·subst h3
     have hS1:S m1=true:=kI m1 (by simpa using gQ)
     have hS2:S m2=true:=kI m2 (by simpa using h23)
     rw [aO,hS2] at hL
     subst hL
     have e1:dB S i m1=S m1:=av aiq
     have e2:dB S i m2=S m2:=av air
     have h:=auc o b S a w G1 ho aO kI hG HS fun k' j d hj hSj hd=>by
      obtain ⟨v,hv1,hv2⟩:=hv j d hSj hd
      exact ⟨v,hv1,aus b k k' j v _ (uK hj) (hno j (uP hd) hSj) hv2⟩
     refine oN (fun e a' w' ⟨he,k',hD⟩=>⟨he,fun _=>by rw [e1];exact hS1,fun _=>by rw [e2];exact hS2,b,k',_,?_,hD⟩) h
     rw [show dB S i i=true from aG rfl];rfl
    ·have h:=zD hstep i o ho
     rw [gI] at h
     have e1:dB S i m1=S m1:=av (fun e=>h1 e.symm)
     have e2:dB S i m2=S m2:=av (fun e=>h2 e.symm)
     have e3:dB S i m3=S m3:=av (fun e=>h3 e.symm)
     refine oN (fun e a' w' ⟨he,hD⟩=>⟨he,by rw [e1,e2];exact aum,by rw [e2,e3];exact aun,b,k,L',?_,hD⟩) (h b k L' S a w G1 hsub hb (uK h1) (uK h2) (uK h3) aO kI hG HS hv)
     rw [e1,e2,e3];exact hL
 ·rintro S a w hall Ko ⟨_,_,b,k,L',hL,G1,hG,HS,hv⟩
  have hs3:S m3=true:=hall m3 (Eq.mp Nat.blt_eq Xi) atZ
  rw [hs3] at hL
  subst hL
  exact hend b k a w G1 hG HS fun j d hb hd=>hv j d (hall j (uP hd) hb) hd
end
theorem aAF {z:Int} (h1:0<=z) (h2:z < 256):IntKind.u8.wrap z=z:=by
 simp only [IntKind.wrap,IntKind.bits,IntKind.signed,LX,Gj,if_false]
 omega
section
variable {N:Nat} {D:List Deferred} {w0:World} {F:Nat->Prop} {G0 G:GH} {L:OL} {T:List (Nat × ah)}
variable {r:Option Nat} {P:Program} {ops:Array Oper} {Q:Exit->Act->World->Prop} {rest:List Oper} {a:Act} {w:World}
variable {d:Nat} {ty:TypeId} {pos:String} {aN:Array Edge} {g:Option (Nat × Bool)}
theorem azw {x y:Operand} {t yt:TypeId} {p q:Int} (H:St N D w0 F G0 G L T a w) (hw:Region.wanted ⟨some d,.binOp .sub t x y yt,ty,pos,aN,g⟩ (yielded ops a.tmps)=true) (hx:ev T x=some (.int .u8 p)) (hy:ev T y=some (.int .u8 q)) (h1:0<=p - q) (h2:p - q < 256) (hd:Nat.blt d N=true)
  (k:∀ a',St N D w0 F G0 G L ((d,.int .u8 (p - q)) :: T) a' w->WL r P ops Q rest a' w):WL r P ops Q (⟨some d,.binOp .sub t x y yt,ty,pos,aN,g⟩ :: rest) a w :=
 fT (v:=.int .u8 (p - q)) (w':=w) hw rfl (by simp [execOp,eqGuard,binOp,Op.intArith,H.ev hx,H.ev hy,dZ,aAF h1 h2]) (k _ (H.put hd _ H.hp))
end
end
theorem aqj:aQ 279:=aR func279 rfl
theorem Oc:Ty prog 313 1 24 [.slice none 0 0] false:=⟨by kernel_rfl,by kernel_rfl⟩
theorem aqF:aQ 94:=aR func94 rfl
theorem Ll:prog.underlying 313=some (.slice 318):=by kernel_rfl
theorem Le:Ty prog 318 3 32 [.string ⟨#[]⟩,.int .i64 0,.bool false] true:=⟨by kernel_rfl,by kernel_rfl⟩
theorem aqk:aQ 280:=aR func280 rfl
theorem MQ:dH prog 340 2 2:=⟨by kernel_rfl⟩
theorem MR:dH prog 340 3 4:=⟨by kernel_rfl⟩
theorem ajH:qK prog 318 [(0,1),(1,1),(2,1)] [.string ⟨#[]⟩,.int .i64 0,.bool false]:=⟨by kernel_rfl,by kernel_rfl⟩
theorem Vx:aQ 274:=aR func274 rfl
theorem Qc:dH prog 340 4 5:=⟨by kernel_rfl⟩
structure jW where
 lit:ByteArray
 level:Int
 plain:Bool
def jW.dat (x:jW):List Dat:=[.lf (.string x.lit),li x.level,.lf (.bool x.plain)]
abbrev jW.cells (x:jW):List ah:=[.string x.lit,vi x.level,.bool x.plain]
theorem aaI {p:Prop} (h:p:=by
 exact ⟨_,_,rfl,by simp [au,Value.oneCell'],_,_,rfl,by simp [au,Value.oneCell'],_,_,rfl,by simp [au,Value.oneCell'],rfl⟩):p:=h
theorem ahV (G:GH) (x:jW):aY G x.dat x.cells:=by
 simp only [jW.dat,jW.cells,aY]
 exact aaI
theorem abB {p:Prop} (h:p:=by
 obtain ⟨_,_,rfl,⟨rfl,_⟩,_,_,rfl,⟨rfl,_⟩,_,_,rfl,⟨rfl,_⟩,rfl⟩:=h
 rfl):p:=h
theorem ahU {G:GH} {x:jW} {cs:List ah} (h:aY G x.dat cs):cs=x.cells:=by
 simp only [jW.dat,aY,au] at h
 exact abB
def Iw (l:List jW):List ah:=(l.map jW.cells).flatten
theorem ahT (l:List jW) (x:jW):Iw (l++[x])=Iw l++x.cells:=by simp [Iw]
structure BX (b:Nat) (lit:List UInt8) (parts:List jW) (p v q:ah) (Lp Lo:OL):Prop where
 ptr:p=.pointer none∨p=(aJ b 2)
 buf:cu 5 1 v lit.length (Lib.byteCells lit) Lo
 prt:cu 318 3 q parts.length (Iw parts) Lp
def yO (lit:List UInt8) (parts:List jW):List jW:=if lit=[] then parts else parts++[⟨⟨lit.toArray⟩,0,false⟩]
theorem alN {p:Prop} (h:p:=by
 exact Dx HT Hb hG hv (iW aK jG) H rfl):p:=h
theorem gL {p:Prop} (h:p:=by
 exact absurd hB (by decide)):p:=h
theorem Ud {p:Prop} (h:p:=by
 exact aem (by kernel_rfl) rfl HT Hb hG (fun j e h1 h2 h3=>hv _ j e h1 h2 h3) (rfl) H):p:=h
theorem aaJ {p:Prop} (h:p:=by
 first
  | exact H.hp.jY (L':=iN b s i _ _ _ pl e :: jG.2) (Dn _ _) ⟨_,_,_,jG.2,[],by rw [ig],⟨.inl rfl,cu.nil,by rw [yO,av hne];simpa using CF⟩⟩
  | exact H.hp.fQ ⟨_,_,_,Lp,Lo,by rw [uf],by
    have h0:lit=[]:=by
     cases lit with
     | nil=>rfl
     | cons x r=>simp at p6
    subst h0;exact ⟨aut,hbuf,by rw [yO,aG rfl];exact Xt⟩⟩):p:=h
theorem xG {p:Prop} (h:p:=by
 intro _ _ _ _ _ _ _ _ hB;exact gL):p:=h
theorem GI {p:Prop} (h:p:=by
 clear H;intro a H;refine aD ⟨rfl,?_⟩;exact alN):p:=h
theorem Ux {p:Prop} (h:p:=by
 intro aK jG dM bH a w G1 fF _ _ _ _ aO hc hG HT hv;have H:=HT;clear aO;have Hb:=H.full;have H:=Hb;clear hc;refine kH H (Rm rfl ?_);exact GI):p:=h
set_option maxHeartbeats 1000000 in
theorem VW (G:GH) (Lp Lo:OL) (w0:World) (b:Nat) (s:ByteArray) (i:Int) (p v q:ah) (pl e:Int) (lit:List UInt8) (parts:List jW) (hR:BX b lit parts p v q Lp Lo) (hO:gH G (iN b s i p v q pl e :: (Lp++Lo)) w0) (hl:lit.length<=4294967296) (hp:parts.length<=4294967296) :
  Calls prog 274 #[(aJ b 0)] w0 (fU w0 G (iN b s i p v q pl e :: (Lp++Lo)) fun u G' L'=>∃ p' v' q' sJ kD,L'=iN b s i p' v' q' pl e :: (sJ++kD)∧BX b [] (yO lit parts) p' v' q' sJ kD):=by
 obtain ⟨aut,hbuf,Xt⟩:=hR;have hml:maxLen=9223372036854775807:=rfl;obtain ⟨A,c,rfl,aho,ahp⟩:=hbuf.shape;obtain ⟨B,d,rfl,ahb,ahc⟩:=Xt.shape;obtain ⟨Lt,uf⟩:∃ x,x=Lp++Lo:=⟨_,rfl⟩;rw [<- uf] at hO |-;refine jc (N:=25) (T:=[(0,_)]) func274 rfl ntmps274 rfl rfl hO ?_;intro a H;refine kP H (SR fun _ K1=>Rm rfl (Rk rfl (Rf MQ rfl ?_)));clear H;intro a H;refine gy aqj (Li:=[]) (L:=iN b s i p (.slice A lit.length c) (.slice B parts.length d) pl e :: Lt) H wn rfl (aAd _ _ _ b s i p A lit.length c B parts.length d pl e (Hp.owns (Li:=[]) H.hp)) rfl ?_;clear H;rintro v5 _ L5 a w ⟨rfl,rfl,rfl⟩ E5 H;dsimp only [List.nil_append] at H;refine kH H (Rc rfl (Kz K1 (Cd rfl ?_ ?_))) <;> clear H K1
 ·intro h6 a H
  try have p6:=dT h6
  have hne:lit≠[]:=fun e=>by rw [e] at p6;simp at p6
  subst uf;refine bD (fun _ K2=>?_)
  have iW:Mo2 (fun (aK:Nat) (jG:(Option Addr × Nat) × OL) (bT:Nat) (v:ah) (G:GH)=>match bT with|0=>v=(aJ b 0)|1=>v=(aJ b 0)|2=>v=(aJ b 0)|3=>v=(aJ b 4)|4=>v=.slice B parts.length d|5=>v=(aJ b 0)|6=>v=(aJ b 0)|7=>v=(aJ b 2)|8=>v=.string ⟨lit.toArray⟩|9=>v=.agg (jW.cells ⟨⟨lit.toArray⟩,0,false⟩).toArray|10=>v=.slice (some ⟨aK,0,none⟩) 1 1|11=>v=.slice jG.1.1 (parts.length+1) jG.1.2∧cu 318 3 v (parts.length+1) (Iw (parts++[⟨⟨lit.toArray⟩,0,false⟩])) jG.2|_=>True):=by intro aK jG bT v G G' hm h;(iterate 15 (rcases bT with _|bT;(first|exact h)));exact trivial
  refine amr (κ:=(Option Addr × Nat) × OL) (((none,0),[])) (hmx) [[],[],[1],[1,2],[1,2,3],[],[5],[5,6],[5,6,7],ra 5 4,ra 5 5,ra 1 10,ra 0 12,ra 0 13,ra 0 14] [12,13,14] (by kernel_rfl) (by kernel_rfl) 8 10 11 (by decide) (by decide) (by decide) (by decide) (by decide) (by decide) (by decide) (by decide) (by decide) [iN b s i p (.slice A lit.length c) (.slice B parts.length d) pl e] (iN b s i p (.slice A lit.length c) (.slice B parts.length d) pl e :: Lp) (.cells (jW.cells ⟨⟨lit.toArray⟩,0,false⟩).toArray 318 (0,0)) (fun b_ k_=>(b_,.cells (jW.cells ⟨⟨lit.toArray⟩,0,false⟩).toArray 318 (0,0)) :: iN b s i p (.slice A lit.length c) (.slice B parts.length d) pl e :: k_.2) (fun x hx=>by rw [pG.1 hx];exact eT) (fun x hx=>by rw [pG.1 hx];exact eT) (fun _ _ x hx=>by rw [pG.1 hx];exact gK _ eT) (fun (aK:Nat) (jG:(Option Addr × Nat) × OL) (bT:Nat) (v:ah) (G:GH)=>match bT with|0=>v=(aJ b 0)|1=>v=(aJ b 0)|2=>v=(aJ b 0)|3=>v=(aJ b 4)|4=>v=.slice B parts.length d|5=>v=(aJ b 0)|6=>v=(aJ b 0)|7=>v=(aJ b 2)|8=>v=.string ⟨lit.toArray⟩|9=>v=.agg (jW.cells ⟨⟨lit.toArray⟩,0,false⟩).toArray|10=>v=.slice (some ⟨aK,0,none⟩) 1 1|11=>v=.slice jG.1.1 (parts.length+1) jG.1.2∧cu 318 3 v (parts.length+1) (Iw (parts++[⟨⟨lit.toArray⟩,0,false⟩])) jG.2|_=>True) (fun b b' k i v G hi hc h=>by (iterate 15 (rcases i with _|i;(first|exact h|exact absurd hi (by decide)|exact absurd hc (by decide))));exact trivial) (fun b k k' i v G hi hc h=>by (iterate 15 (rcases i with _|i;(first|exact h|exact absurd hi (by decide)|exact absurd hc (by decide))));exact trivial) H ?_ ?_ ?_ ?_ ?_ (by kernel_rfl) (by kernel_rfl)
  ·clear H;refine ay ?_ ?_ ?_ ?_ (ay ?_ ?_ ?_ ?_ (ay ?_ ?_ ?_ ?_ (bF ?_ (bF ?_ (bF ?_ cK)))))
   ·exact Ux
   ·exact Ux
   ·intro aK jG dM bH a w G1 fF _ _ _ _ aO hc hG HT hv;have H:=HT;clear aO;have H:=H.aM (hv 1 8 (hc 1 (by decide)) rfl) rfl;have Hb:=H.full;have H:=Hb;clear hc;refine kH H (Rk rfl ?_);exact GI
   ·intro aK jG dM bH a w G1 fF _ _ _ _ aO hc hG HT hv;have H:=HT;clear aO;have H:=H.aM (hv 2 9 (hc 2 (by decide)) rfl) rfl;have Hb:=H.full;have H:=Hb;clear hc;refine kH H (Rf MR rfl ?_);exact GI
   ·intro aK jG dM bH a w G1 fF _ _ _ _ aO hc hG HT hv;have H:=HT;clear aO;have H:=H.aM (hv 3 10 (hc 3 (by decide)) rfl) rfl;have Hb:=H.full;have H:=Hb;clear hc;refine qE Oc H wn rfl (H.hp.zW (fF _ eT) rfl) rfl ?_;exact GI
   ·exact Ux
   ·intro aK jG dM bH a w G1 fF _ _ _ _ aO hc hG HT hv;have H:=HT;clear aO;have H:=H.aM (hv 5 12 (hc 5 (by decide)) rfl) rfl;have Hb:=H.full;have H:=Hb;clear hc;refine kH H (Rk rfl ?_);exact GI
   ·intro aK jG dM bH a w G1 fF _ _ _ _ aO hc hG HT hv;have H:=HT;clear aO;have H:=H.aM (hv 6 13 (hc 6 (by decide)) rfl) rfl;have Hb:=H.full;have H:=Hb;clear hc;refine kH H (Rf MQ rfl ?_);exact GI
   ·intro _ _ _ _ _ _ _ _ _ hB;exact gL
   ·intro aK jG dM bH a w G1 fF _ _ _ _ aO hc hG HT hv;have H:=HT;clear aO;have H:=H.aM (hv 8 15 (hc 8 (by decide)) rfl) rfl;have Hb:=H.full;have H:=Hb;clear hc;refine jD ajH [_,_,_] H wn rfl rfl rfl rfl ?_;exact GI
   ·intro _ _ _ _ _ _ _ _ _ _ hB;exact gL
   ·intro _ _ _ _ _ _ _ _ _ _ _ hB;exact gL
   ·intro _ _ _ _ _ _ _ _ hB;exact gL
   ·intro _ _ _ _ _ _ _ _ hB;exact gL
   exact xG
  ·clear H;intro o_ aK jG bH a w G1 qB _ hc hG HT hv;obtain rfl:_=o_:=Option.some.inj qB;clear qB;have H:=HT;have H:=H.aM (hv 7 14 (by decide) (hc 7 (by decide)) rfl) rfl;have Hb:=H.full;have H:=Hb;clear hc;refine gy aqF (Li:=[]) (L:=iN b s i p (.slice A lit.length c) (.slice B parts.length d) pl e :: (Lp++Lo)) H wn rfl (aAv _ _ _ _ b s i p _ B parts.length d pl e lit (Hp.owns (Li:=[]) H.hp) hbuf hne) rfl ?_;clear H;rintro v15 Ey TA a w ⟨rfl,rfl⟩ AV H;dsimp only [List.nil_append] at H;refine aD ⟨rfl,?_⟩;exact xK (by kernel_rfl) (iW aK jG) rfl HT Hb hG (fun j e h1 h2 h3=>hv j e h1 h2 h3) AV (rfl) H
  ·clear H;intro o_ jG bH a w G1 qB _ hc hG HT hv;obtain rfl:_=o_:=Option.some.inj qB;clear qB;have H:=HT;have H:=H.aM (hv 0 9 16 (by decide) (hc 9 (by decide)) rfl) rfl;have Hb:=H.full;have H:=Hb;clear hc;refine iT Ll Le [_,_,_] [_,_,_] H wn rfl rfl rfl rfl rfl (by intro i q h;match i,h with|0,h=>exact h|n+1,h=>simp at h) rfl rfl ?_;clear H;intro b17 a w agj H;refine aD ⟨rfl,b17,?_⟩;exact Ud
  ·clear H;intro o_ aK bH a w G1 qB _ hc hG HT hv;obtain rfl:_=o_:=Option.some.inj qB;clear qB;have H:=HT;have H:=H.aM (hv (((none,0),[])) 4 11 (by decide) (hc 4 (by decide)) rfl) rfl;have H:=H.aM (hv (((none,0),[])) 10 17 (by decide) (hc 10 (by decide)) rfl) rfl;have Hb:=H.full;have H:=Hb;clear hc;refine oh (Li:=[_,_]) (Lo:=Lp) (news:=jW.cells ⟨⟨lit.toArray⟩,0,false⟩) Ll Le rfl rfl H wn rfl rfl Xt rfl (H.hp.dx 0 rfl rfl) rfl (by omega) (by omega) rfl ?_;clear H;intro v18 alh a w CF H;obtain ⟨A18,c18,rfl,-,-⟩:=CF.shape;rw [<- ahT] at CF;refine aD ⟨rfl,((A18,c18),alh),?_⟩;exact aem (by kernel_rfl) rfl HT Hb hG (fun j e h1 h2 h3=>hv _ j e h1 h2 h3) (⟨rfl,CF⟩) H
  clear H;intro b17 jG a w G nJ H hv;have H:=H.aM (hv 0 7 rfl rfl) rfl;obtain ⟨u18,NC,Fb⟩:=hv 11 18 (by decide) rfl;(try dsimp only at Fb);obtain ⟨rfl,CF⟩:=Fb;have H:=H.iI NC;clear hv;refine kH H (Rk rfl (Rf MR rfl ?_));clear H;intro a H;refine bC Oc 1 (vs:=[_]) H wn rfl ?_;clear H;intro w H;refine aD ⟨rfl,?_⟩;refine K2 _ _ ?_;clear K2;refine kP H (SC (Rm rfl (Rk rfl (Rf MQ rfl ?_))));clear H;intro a H;refine gy aqk (Li:=[_]) (L:=iN b s i p (.slice A lit.length c) (.slice jG.1.1 (parts.length+1) jG.1.2) pl e :: jG.2) H wn rfl (aAu _ _ _ b s i p A lit.length c jG.1.1 (parts.length+1) jG.1.2 pl e (Hp.owns (Li:=[_]) H.hp)) rfl ?_;clear H;rintro v24 _ L24 a w ⟨rfl,rfl⟩ Kg H;dsimp only [lca,bJ] at H;refine aD ?_;refine (leave0 H results274 ?_).2
  exact aaJ
 intro h6 a H
 try have p6:=dF h6
 refine iB ?_;refine (leave0 H results274 ?_).2
 exact aaJ
theorem aiK (G:GH) (Lp Lo:OL) (w0:World) (b:Nat) (s:ByteArray) (i:Int) (p v q:ah) (pl e:Int) (lit:List UInt8) (parts:List jW) (ch:Int) (plain:Bool) (hR:BX b lit parts p v q Lp Lo) (hO:gH G (iN b s i p v q pl e :: (Lp++Lo)) w0) (hl:lit.length<=4294967296) (hp:parts.length<=4294967290) (hc:49<=ch∧ch<=57) (hpl:0<=pl∧pl<=4294967296) :
  Calls prog 278 #[(aJ b 0),.int .u8 ch,.bool plain] w0 (fU w0 G (iN b s i p v q pl e :: (Lp++Lo)) fun u G' L'=>∃ p' v' q' sJ kD,L'=iN b s i p' v' q' (pl+1) e :: (sJ++kD)∧BX b [] (yO lit parts++[⟨⟨#[]⟩,ch - 48,plain⟩]) p' v' q' sJ kD):=by
 have hml:maxLen=9223372036854775807:=rfl
 have hfl:(yO lit parts).length<=parts.length+1:=by unfold yO;split <;> simp
 obtain ⟨A,c,rfl,aho,ahp⟩:=hR.buf.shape;obtain ⟨B,d,rfl,ahb,ahc⟩:=hR.prt.shape;obtain ⟨Lt,uf⟩:∃ x,x=Lp++Lo:=⟨_,rfl⟩;rw [<- uf] at hO |-;refine jc (N:=29) (T:=[(0,_),(1,_),(2,_)]) func278 rfl ntmps278 rfl rfl hO ?_;intro a H;refine kP H (SR fun _ K1=>Rm rfl ?_);clear H;intro a H;refine gy Vx (Li:=[]) (L:=iN b s i p (.slice A lit.length c) (.slice B parts.length d) pl e :: Lt) H wn rfl (by subst uf;exact VW _ Lp Lo _ b s i p _ _ pl e lit parts hR (Hp.owns (Li:=[]) H.hp) hl (by omega)) rfl ?_;clear H;rintro v7 G7 L7 a w ⟨p',v',q',sJ,kD,rfl,M4⟩ vQ H;dsimp only [List.nil_append] at H;obtain ⟨A7,c7,rfl,-,-⟩:=M4.buf.shape;obtain ⟨B7,d7,rfl,-,-⟩:=M4.prt.shape;refine K1 _ _ ?_;clear K1;refine kP H (SR fun _ K2=>Rm rfl (Rm rfl (Rk rfl (bq MR Oc 0 rfl rfl (Rm rfl ?_)))));clear H;intro a H;refine azw H wn rfl rfl (by omega) (by omega) rfl ?_;clear H;intro a H;refine CV _ mh Oh H wn rfl rfl rfl ?_;clear H;intro a H;rw [Il (by omega) (by omega)] at H;refine kH H (Rm rfl ?_);clear H;intro a H;refine jD ajH [_,_,_] H wn rfl rfl rfl rfl ?_;clear H;intro a H;refine iT Ll Le [_,_,_] [_,_,_] H wn rfl rfl rfl rfl rfl (by intro i q h;match i,h with|0,h=>exact h|n+1,h=>simp at h) rfl rfl ?_;clear H;intro b18 a w Qp H;have H:=(St.cast H (show _=[_,_]++(sJ++kD) from rfl)).perm (List.Perm.append_left _ pK);have H:=St.un H;refine oh (Li:=[_,_]++kD) (Lo:=sJ) (news:=jW.cells ⟨⟨#[]⟩,ch - 48,plain⟩) Ll Le rfl rfl H wn rfl rfl M4.prt rfl (H.hp.dx 0 rfl rfl) rfl (by omega) (by omega) rfl ?_;clear H;intro v19 aac a w Fg H;obtain ⟨I6,c19,rfl,-,-⟩:=Fg.shape;rw [<- ahT] at Fg;have H:=H.assoc.perm (List.Perm.append_left _ pK);dsimp only [lca,bJ] at H;refine kH H (Rk rfl (Rf MR rfl ?_));clear H;intro a H;refine bC Oc 1 (vs:=[_]) H wn rfl ?_;clear H;intro w H;refine K2 _ _ ?_;clear K2;refine kP H (SC (Rm rfl (Rk rfl (bq Qc aC 1 rfl rfl (Rd rfl (Rk rfl (Rf Qc rfl ?_)))))));clear H;intro a H;refine bC aC 1 (vs:=[_]) H wn rfl ?_;clear H;intro w H;refine aD ?_;refine (leave0 H results278 ?_).2;exact H.hp.jY (L':=iN b s i _ _ _ (pl+1) e :: (aac++kD)) (Dn _ _) ⟨_,_,_,aac,kD,rfl,M4.ptr,M4.buf,by simpa using Fg⟩
section
section
variable {N:Nat} {D:List Deferred} {w0:World} {F:Nat->Prop} {G0 G:GH} {L:OL} {T Xs:List (Nat × ah)}
variable {r:Option Nat} {P:Program} {Q:Exit->Act->World->Prop} {l:List Oper} {a a':Act} {w w':World}
abbrev ZL:Type:=Nat × ah × Nat × Bool
def ZM (ent:List ZL) (S:Nat->Bool) (a:Act):Prop:=∀ e∈ent,S e.2.2.1=e.2.2.2->a.tmps[e.1]?=some e.2.1
theorem ZM.at {ent:List ZL} {S:Nat->Bool} {a:Act} (h:ZM ent S a) (k:Nat) {t:Nat} {v:ah} {j:Nat} {b:Bool} (hk:ent[k]?=some (t,v,j,b)) (hS:S j=b):a.tmps[t]?=some v:=h _ (lQ hk) hS
theorem azv {ops:Array Oper} {rest:List Oper} {d:Nat} {ty:TypeId} {pos:String} {aN:Array Edge} {g:Option (Nat × Bool)} {t:TypeId} {x y:Operand} {s:ByteArray} {ky:IntKind} {p:Int} (hi:Nat) (ht:P.underlying t=some .string) (H:St N D w0 F G0 G L T a w) (hw:Region.wanted ⟨some d,.slice t x none (some y) none,ty,pos,aN,g⟩ (yielded ops a.tmps)=true) (hx:ev T x=some (.string s)) (hy:ev T y=some (.int ky p)) (hp:p=(hi:Int)) (h1:hi<=s.size) (hd:Nat.blt d N=true)
  (k:∀ a',St N D w0 F G0 G L ((d,.string (s.extract 0 hi)) :: T) a' w->WL r P ops Q rest a' w):WL r P ops Q (⟨some d,.slice t x none (some y) none,ty,pos,aN,g⟩ :: rest) a w:=by
 subst hp
 have hr:=run_slice_string_h (P:=P) w t s ht ky (hi:Int) (by omega) (by omega)
 rw [Int.toNat_natCast] at hr
 refine fT (v:=.string (s.extract 0 hi)) (w':=w) hw rfl ?_ (k _ (H.put hd _ H.hp))
 simp only [execOp,H.ev hx,wo,Option.map_none,H.ev hy,dZ,run_sliceAt_string w t _ _ _ _ ht,hr,oP,tQ]
end
end
theorem aql:aQ 281:=aR func281 rfl
theorem yM:dH prog 340 0 0:=⟨by kernel_rfl⟩
theorem aeP:aQ 273:=aR func273 rfl
theorem aeR:aQ 277:=aR func277 rfl
theorem aeS:aQ 278:=aR func278 rfl
theorem rU:dH prog 340 1 1:=⟨by kernel_rfl⟩
theorem aeQ:aQ 276:=aR func276 rfl
theorem Dz:dH prog 340 5 6:=⟨by kernel_rfl⟩
def vO (s p:ByteArray):Bool:=decide (p.size<=s.size) && ((s.extract 0 p.size).toList == p.toList)
theorem asQ (G:GH) (w0:World) (hG:Hold G w0) (s p:ByteArray) (hs:s.size<=4611686018427387904) (hp:p.size<=4611686018427387904):Calls prog 281 #[.string s,.string p] w0 (bK w0 G fun u G'=>u=.bool (vO s p)∧G=G'):=by
 refine eN [(0,_),(1,_)] func281 rfl ntmps281 rfl rfl hG ?_;intro a H;refine kP H (SR fun _ K1=>aj K1 rfl (SR fun _ K2=>Rm rfl (Rv iY rfl (Rm rfl (Rv iY rfl (Rc rfl (Rm rfl (Sp 10 rfl ?_ ?_)))))))) <;> clear H K1
 ·intro h10 a H
  try have nN:=dT h10
  refine kH H (YM h10 rfl (YM h10 rfl ?_));clear H;intro a H;refine FC iY H (wg H rfl rfl h10) rfl rfl ?_;clear H;intro a H;refine azv p.size iY H (wg H rfl rfl h10) rfl rfl rfl (by omega) rfl ?_;clear H;intro a H;refine kH H (YM h10 rfl ?_);clear H;intro a H;refine FB H (wg H rfl rfl h10) rfl rfl rfl ?_;clear H;intro a H;exact kH H (Pt h10 rfl (aj K2 rfl (LR results281 rfl fun H=>H.rt ⟨iK (by unfold vO;first|(simp_all;done)|(simp_all;omega)),rfl⟩)))
 intro h10 a H
 try have nN:=dF h10
 exact kH H (bB h10 rfl (bB h10 rfl (Pf h10 rfl (aj K2 rfl (LR results281 rfl fun H=>H.rt ⟨iK (by unfold vO;first|(simp_all;done)|(simp_all;omega)),rfl⟩)))))
theorem agf (G:GH) (w0:World) (hG:Hold G w0) (s p:ByteArray) (hs:s.size<=4611686018427387904) (hp:p.size<=4611686018427387904):Calls prog 276 #[.string s,.string p] w0 (bK w0 G fun u G'=>u=.bool (vO s p)∧G=G'):=by
 refine eN [(0,_),(1,_)] func276 rfl ntmps276 rfl rfl hG ?_;intro a H;refine kP H (SR fun _ K1=>aj K1 rfl (SR fun _ K2=>Rm rfl (Rm rfl ?_)));clear H K1;intro a H;refine s_call aql H wn rfl (asQ _ _ H.ro s p hs hp) rfl ?_;clear H;rintro v7 _ a w ⟨rfl,rfl⟩ - H;exact kH H (aj K2 rfl (LR results276 rfl fun H=>H.rt ⟨rfl,rfl⟩))
def yG (s:ByteArray) (k:Nat):Bool:=decide (k < s.size) && decide (49<=gU s k) && decide (gU s k<=57)
theorem aei (G:GH) (L:OL) (w0:World) (b:Nat) (s:ByteArray) (i:Int) (p v q:ah) (pl e:Int) (k:Nat) (hs:s.size<=4611686018427387904) (hO:gH G (iN b s i p v q pl e :: L) w0) :
  Calls prog 277 #[(aJ b 0),vi k] w0 (fU w0 G (iN b s i p v q pl e :: L) fun u G' L'=>u=.bool (yG s k)∧L'=iN b s i p v q pl e :: L∧G'=G):=by
 refine jc (N:=30) (T:=[(0,_),(1,_)]) func277 rfl ntmps277 rfl rfl hO ?_;intro a H;refine kP H (SR fun _ K1=>aj K1 rfl (SR fun _ K2=>Rm rfl (Rm rfl (Rk rfl (bq yM jg 0 rfl rfl (Rv iY rfl (Rc rfl (Rm rfl (Sp 12 rfl ?_ ?_))))))))) <;> clear H K1
 ·intro h12 a H
  try have qD:=dT h12
  refine kH H (YM h12 rfl ?_);clear H;intro a H;refine zk H (wg H rfl rfl h12) rfl rfl ?_;clear H;intro a H;refine kH H (YF yM h12 rfl (YO jg 0 h12 rfl (YM h12 rfl ?_)));clear H;intro a H;refine qW k iY H (wg H rfl rfl h12) rfl rfl rfl (by omega) rfl ?_;clear H;intro a H;rw [<- oQ] at H;refine kH H (YC h12 rfl (Pt h12 rfl (Rm rfl (Sp 21 rfl ?_ ?_)))) <;> clear H
  ·intro h21 a H
   try have wU:=dT h21
   refine kH H (YM h21 rfl ?_);clear H;intro a H;refine zk H (wg H rfl rfl h21) rfl rfl ?_;clear H;intro a H;refine kH H (YF yM h21 rfl (YO jg 0 h21 rfl (YM h21 rfl ?_)));clear H;intro a H;refine qW k iY H (wg H rfl rfl h21) rfl rfl rfl (by omega) rfl ?_;clear H;intro a H;rw [<- oQ] at H;exact kH H (YC h21 rfl (Pt h21 rfl (aj K2 rfl (LR results277 rfl fun H=>H.hp.fQ ⟨iK (by unfold yG;first|(simp_all;done)|(simp_all;omega)),rfl,rfl⟩))))
  intro h21 a H
  try have wU:=dF h21
  exact kH H (bB h21 rfl (aP h21 rfl (aP h21 rfl (Pf h21 rfl (aj K2 rfl (LR results277 rfl fun H=>H.hp.fQ ⟨iK (by unfold yG;first|(simp_all;done)|(simp_all;omega)),rfl,rfl⟩))))))
 intro h12 a H
 try have qD:=dF h12
 exact kH H (bB h12 rfl (aP h12 rfl (aP h12 rfl (Pf h12 rfl (Rm rfl (bB rfl rfl (aP rfl rfl (aP rfl rfl (Pf rfl rfl (aj K2 rfl (LR results277 rfl fun H=>H.hp.fQ ⟨iK (by unfold yG;first|(simp_all;done)|(simp_all;omega)),rfl,rfl⟩)))))))))))
structure wh where
 i:Nat
 lit:List UInt8
 parts:List jW
 pl:Nat
 e:Int
def xW (s:ByteArray) (x:wh):wh :=
 if vO (s.extract x.i s.size) ⟨#[37,37]⟩=true then ⟨x.i+2,x.lit++[37],x.parts,x.pl,x.e⟩
 else if yG s (x.i+1)=true then ⟨x.i+2,[],yO x.lit x.parts++[⟨⟨#[]⟩,gU s (x.i+1) - 48,false⟩],x.pl+1,x.e⟩
 else if vO (s.extract x.i s.size) ⟨#[37,100]⟩=true∧yG s (x.i+2)=true then ⟨x.i+3,[],yO x.lit x.parts++[⟨⟨#[]⟩,gU s (x.i+2) - 48,true⟩],x.pl+1,x.e⟩
 else ⟨x.i,x.lit,x.parts,x.pl,14⟩
abbrev xZ (b:Nat) (s:ByteArray) (x:wh) (p v q:ah):Nat × Obj:=iN b s x.i p v q x.pl x.e
theorem aeh {s:ByteArray} {k:Nat} (h:yG s k=true):k < s.size∧49<=gU s k∧gU s k<=57:=by
 simpa [yG,and_assoc] using h
theorem Ue {p:Prop} (h:p:=by
 first
  | exact H.hp.fQ ⟨_,_,_,TJ,TI,by rw [xW,av Km,av Kl,aG ⟨c1,iC⟩];rfl,by rw [xW,av Km,av Kl,aG ⟨c1,iC⟩];exact Hu⟩
  | (have hn3:¬ (vO (s.extract i s.size) ⟨#[37,100]⟩=true∧yG s (i+2)=true):=by simp_all
     exact H.hp.fQ ⟨_,_,_,Lp,Lo,by rw [xW,av Km,av Kl,av hn3,uf],by rw [xW,av Km,av Kl,av hn3];exact hR⟩)):p:=h
theorem acB {p:Prop} (h:p:=by
 refine gZ 8 63 rfl rfl fun _ a w G1 hG HT H fin=>?_;refine s_call aeQ H wn rfl (agf _ _ H.ro _ _ hex (by decide)) rfl ?_;clear H;rintro v64 G64 a w ⟨rfl,rfl⟩ asA H;exact fin H asA (rfl)):p:=h
theorem Pq {p:Prop} (h:p:=by
 clear H;intro a H;rw [<- oQ] at H;exact Jy):p:=h
theorem abt {p:Prop} (h:p:=by
 refine gZ 9 64 rfl rfl fun _ a w G1 hG HT H fin=>?_;refine kH H (Rm rfl ?_);clear H;intro a H;exact aaB):p:=h
theorem Uz {p:Prop} (h:p:=by
 refine azu i iY H wn rfl rfl rfl (by omega) rfl ?_;exact jk):p:=h
set_option maxHeartbeats 1000000 in
theorem axD (G:GH) (Lp Lo:OL) (w0:World) (b:Nat) (s:ByteArray) (x:wh) (p v q:ah) (hR:BX b x.lit x.parts p v q Lp Lo) (hO:gH G (xZ b s x p v q :: (Lp++Lo)) w0) (hs:s.size<=4294967290) (hi:x.i < s.size) (hl:x.lit.length<=4294967290) (hp:x.parts.length<=4294967290) (hpl:x.pl<=4294967290) :
    Calls prog 272 #[(aJ b 0)] w0 (fU w0 G (xZ b s x p v q :: (Lp++Lo)) fun u G' L'=>∃ p' v' q' sJ kD,L'=xZ b s (xW s x) p' v' q' :: (sJ++kD)∧BX b (xW s x).lit (xW s x).parts p' v' q' sJ kD):=by
  obtain ⟨i,lit,parts,pl,e⟩:=x;dsimp only [xZ] at *
  have hex:(s.extract i s.size).size<=4611686018427387904:=by rw [ByteArray.size_extract];omega
  obtain ⟨A,c,rfl,aho,ahp⟩:=hR.buf.shape;obtain ⟨B,d,rfl,ahb,ahc⟩:=hR.prt.shape;obtain ⟨Lt,uf⟩:∃ x,x=Lp++Lo:=⟨_,rfl⟩;rw [<- uf] at hO |-;refine jc (N:=93) (T:=[(0,_)]) func272 rfl ntmps272 rfl rfl hO ?_;intro a H;refine Cj ?_;refine bD (fun _ K1=>?_);refine dI hmx [[],[0],[0,1],[0,1,2],[],[4],[4,5],[4,5,6],ra 0 8,ra 0 9,ra 0 10] [] (by kernel_rfl) [_,_,_,.string s,_,_,_,vi i,.string (s.extract i s.size),.bool (vO (s.extract i s.size) ⟨#[37,37]⟩),_] H (ay (Z0 rfl (Rm rfl)) (Z1 0 6 rfl (Rk rfl)) (Z1 1 7 rfl (Rf yM rfl)) (Z1 2 8 rfl (Ro jg 0 rfl)) (ay (Z0 rfl (Rm rfl)) (Z1 4 10 rfl (Rk rfl)) (Z1 5 11 rfl (Rf rU rfl)) (Z1 6 12 rfl (Ro aC 0 rfl)) (bF ?_ (bF ?_ (bF (Z1 9 15 rfl (Ra rfl)) cK))))) ?_
  · refine dY 3 9 7 13 rfl rfl fun _ a w G1 hG HT H fin=>?_;exact Uz
  · refine gZ 8 14 rfl rfl fun _ a w G1 hG HT H fin=>?_;refine s_call aeQ H wn rfl (agf _ _ H.ro _ _ hex (by decide)) rfl ?_;clear H;rintro v15 Ey a w ⟨rfl,rfl⟩ AV H;exact fin H AV (rfl)
  clear H;intro a w G nJ H hv;have H:=H.aM (hv 10 5 rfl rfl) rfl;clear hv;refine aD ⟨rfl,?_⟩;refine K1 _ _ ?_;clear K1;refine jS H rfl ?_ ?_
  · intro h5
    try have p5:=dT h5
    refine kP H (SR fun _ K2=>Rm rfl (Rk rfl (Rf MQ rfl ?_)));clear H;intro a H;refine gy aeP (Li:=[]) (L:=iN b s i p (.slice A lit.length c) (.slice B parts.length d) pl e :: Lt) H wn rfl (by subst uf;exact akC _ Lp Lo _ b s i p _ B parts.length d pl e lit.length _ 37 hR.ptr (Hp.owns (Li:=[]) H.hp) hR.buf (by omega)) rfl ?_;clear H;rintro v19 _ L19 a w ⟨aCT,TG,rfl,Fg,rfl⟩ uj H;dsimp only [List.nil_append] at H;obtain ⟨I6,c19,rfl,-,-⟩:=Fg.shape;refine K2 _ _ ?_;clear K2;refine kP H (SC (Rm rfl (Rk rfl (bq rU aC 0 rfl rfl (Rd rfl (Rk rfl (Rf rU rfl ?_)))))));clear H;intro a H;refine bC aC 0 (vs:=[_]) H wn rfl ?_;clear H;intro w H;refine aD ?_;refine (leave0 H results272 ?_).2;exact H.hp.fQ ⟨_,_,_,Lp,TG,by rw [xW,aG h5];rfl,by rw [xW,aG h5];exact ⟨.inr rfl,by simpa [Lib.byteCells] using Fg,hR.prt⟩⟩
  intro h5
  try have p5:=dF h5
  refine kP H (SR fun _ K3=>Rm rfl (Rm rfl (Rk rfl (bq rU aC 0 rfl rfl (Rd rfl ?_)))));clear H;intro a H;rw [show ((i:Int)+1)=((i+1:Nat):Int) from rfl] at H;refine gy aeR (Li:=[]) (L:=iN b s i p (.slice A lit.length c) (.slice B parts.length d) pl e :: Lt) H wn rfl (aei _ Lt _ b s i p _ _ pl e (i+1) (by omega) (Hp.owns (Li:=[]) H.hp)) rfl ?_;clear H;rintro v34 _ L34 a w ⟨rfl,rfl,rfl⟩ zT H;dsimp only [List.nil_append] at H;refine kH H (aj K3 rfl (Cd rfl ?_ ?_)) <;> clear H K3
  · intro h27 a H
    try have p27:=dT h27
    have hd1:=aeh h27;refine bD (fun _ K4=>?_);refine dI hmx [[],[],[1],[1,2],[1,2,3],[],[5],[5,6],[5,6,7],ra 5 4,ra 1 9,ra 0 11] [11] (by kernel_rfl) [_,_,_,_,.string s,_,_,_,vi i,_,.int .u8 (gU s (i+1))] H (ay (Z0 rfl (Rm rfl)) (Z0 rfl (Rm rfl)) (Z1 1 36 rfl (Rk rfl)) (Z1 2 37 rfl (Rf yM rfl)) (ay (Z1 3 38 rfl (Ro jg 0 rfl)) (Z0 rfl (Rm rfl)) (Z1 5 40 rfl (Rk rfl)) (Z1 6 41 rfl (Rf rU rfl)) (ay (Z1 7 42 rfl (Ro aC 0 rfl)) (Z1 8 43 rfl (Rd rfl)) ?_ (bR rfl) cK))) ?_
    · refine dY 4 39 9 44 rfl rfl fun _ a w G1 hG HT H fin=>?_;refine qW (i+1) iY H wn rfl rfl rfl hd1.1 rfl ?_;exact Pq
    clear H;intro a w G lF H hv;have H:=H.aM (hv 0 35 rfl rfl) rfl;have H:=H.aM (hv 10 45 rfl rfl) rfl;clear hv;refine gy aeS (Li:=[]) (L:=iN b s i p (.slice A lit.length c) (.slice B parts.length d) pl e :: Lt) H wn rfl (by subst uf;exact aiK _ Lp Lo _ b s i p _ _ pl e lit parts (gU s (i+1)) false hR (Hp.owns (Li:=[]) H.hp) (by omega) (by omega) hd1.2 (by omega)) rfl ?_;clear H;rintro v46 Tt L46 a w ⟨p46,aAW,q46,TJ,TI,rfl,Hu⟩ agG H;dsimp only [List.nil_append] at H;obtain ⟨A46,c46,rfl,-,-⟩:=Hu.buf.shape;obtain ⟨B46,d46,rfl,-,-⟩:=Hu.prt.shape;refine aD ⟨rfl,?_⟩;refine K4 _ _ ?_;clear K4;refine kP H (SC (Rm rfl (Rk rfl (bq rU aC 0 rfl rfl (Rd rfl (Rk rfl (Rf rU rfl ?_)))))));clear H;intro a H;refine bC aC 0 (vs:=[_]) H wn rfl ?_;clear H;intro w H;refine aD ?_;refine (leave0 H results272 ?_).2;exact H.hp.fQ ⟨_,_,_,TJ,TI,by rw [xW,av (by simp [h5]),aG h27];rfl,by rw [xW,av (by simp [h5]),aG h27];exact Hu⟩
  intro h27 a H
  try have p27:=dF h27
  refine bD (fun _ K5=>?_)
  by_cases c1:vO (s.extract i s.size) ⟨#[37,100]⟩=true
  · skip;refine dI hmx [[],[0],[0,1],[0,1,2],[],[4],[4,5],[4,5,6],ra 0 8,ra 0 9,ra 0 10,ra 0 11,ra 0 11,(ra 0 11++[12]),(ra 0 11++[12,13]),(ra 0 11++[12,13,14]),(ra 0 11++ra 12 4),ra 0 17,ra 0 18,ra 0 19] [] (by kernel_rfl) [_,_,_,.string s,_,_,_,vi i,.string (s.extract i s.size),.bool (vO (s.extract i s.size) ⟨#[37,100]⟩),.bool (decide (vO (s.extract i s.size) ⟨#[37,100]⟩=true)),_,_,(aJ b 0),_,vi i,vi ((i+2:Nat):Int),.bool (yG s (i+2)),_,_] H (ay (Z0 rfl (Rm rfl)) (Z1 0 55 rfl (Rk rfl)) (Z1 1 56 rfl (Rf yM rfl)) (Z1 2 57 rfl (Ro jg 0 rfl)) (ay (Z0 rfl (Rm rfl)) (Z1 4 59 rfl (Rk rfl)) (Z1 5 60 rfl (Rf rU rfl)) (Z1 6 61 rfl (Ro aC 0 rfl)) (ay ?_ ?_ ?_ (Z1 10 65 rfl (YM (aI c1) rfl)) (ay (Z1 10 65 rfl (YM (aI c1) rfl)) ?_ (Z2 13 68 10 65 rfl (YF rU (aI c1) rfl)) (Z2 14 69 10 65 rfl (YO aC 0 (aI c1) rfl)) (ay ?_ ?_ (Z2 10 65 17 72 rfl (Pt (aI c1) rfl)) (Z1 18 73 rfl (Ra rfl)) cK))))) ?_
    · refine dY 3 58 7 62 rfl rfl fun _ a w G1 hG HT H fin=>?_;exact Uz
    · exact acB
    · exact abt
    · refine dY 12 67 10 65 rfl rfl fun _ a w G1 hG HT H fin=>?_;refine zk H (wg H rfl rfl (aI c1)) rfl rfl ?_;exact jk
    · refine dY 15 70 10 65 rfl rfl fun _ a w G1 hG HT H fin=>?_;refine NY _ H (wg H rfl rfl (aI c1)) rfl rfl rfl (by omega) (by omega) rfl ?_;exact jk
    · refine vZ 11 66 16 71 10 65 rfl rfl fun _ a w G1 hG HT H fin=>?_;refine gy aeR (Li:=[]) (L:=iN b s i p (.slice A lit.length c) (.slice B parts.length d) pl e :: Lt) H (wg H rfl rfl (aI c1)) rfl (aei _ Lt _ b s i p _ _ pl e (i+2) (by omega) (Hp.owns (Li:=[]) H.hp)) rfl ?_;clear H;rintro v72 G72 L72 a w ⟨rfl,rfl,rfl⟩ asB H;dsimp only [List.nil_append] at H;exact fin H asB (rfl)
    clear H;intro a w G WG H hv;have H:=H.aM (hv 19 54 rfl rfl) rfl;clear hv;refine aD ⟨rfl,?_⟩;refine K5 _ _ ?_;clear K5;refine jS H rfl ?_ ?_
    · intro iC
      try have p54:=dT iC
      have hd2:=aeh iC;refine bD (fun _ K6=>?_);refine dI hmx [[],[],[1],[1,2],[1,2,3],[],[5],[5,6],[5,6,7],ra 5 4,ra 1 9,ra 0 11] [11] (by kernel_rfl) [_,_,_,_,.string s,_,_,_,vi i,_,.int .u8 (gU s (i+2))] H (ay (Z0 rfl (Rm rfl)) (Z0 rfl (Rm rfl)) (Z1 1 75 rfl (Rk rfl)) (Z1 2 76 rfl (Rf yM rfl)) (ay (Z1 3 77 rfl (Ro jg 0 rfl)) (Z0 rfl (Rm rfl)) (Z1 5 79 rfl (Rk rfl)) (Z1 6 80 rfl (Rf rU rfl)) (ay (Z1 7 81 rfl (Ro aC 0 rfl)) (Z1 8 82 rfl (Rd rfl)) ?_ (bR rfl) cK))) ?_
      · refine dY 4 78 9 83 rfl rfl fun _ a w G1 hG HT H fin=>?_;refine qW (i+2) iY H wn rfl rfl rfl hd2.1 rfl ?_;exact Pq
      clear H;intro a w G rW H hv;have H:=H.aM (hv 0 74 rfl rfl) rfl;have H:=H.aM (hv 10 84 rfl rfl) rfl;clear hv;refine gy aeS (Li:=[]) (L:=iN b s i p (.slice A lit.length c) (.slice B parts.length d) pl e :: Lt) H wn rfl (by subst uf;exact aiK _ Lp Lo _ b s i p _ _ pl e lit parts (gU s (i+2)) true hR (Hp.owns (Li:=[]) H.hp) (by omega) (by omega) hd2.2 (by omega)) rfl ?_;clear H;rintro v85 G85 L85 a w ⟨p46,aAW,q46,TJ,TI,rfl,Hu⟩ aCs H;dsimp only [List.nil_append] at H;obtain ⟨A46,c46,rfl,-,-⟩:=Hu.buf.shape;obtain ⟨B46,d46,rfl,-,-⟩:=Hu.prt.shape;refine aD ⟨rfl,?_⟩;refine K6 _ _ ?_;clear K6;refine kP H (SC (Rm rfl (Rk rfl (bq rU aC 0 rfl rfl (Rd rfl (Rk rfl (Rf rU rfl ?_)))))));clear H;intro a H;refine bC aC 0 (vs:=[_]) H wn rfl ?_;clear H;intro w H;refine aD ?_;refine (leave0 H results272 ?_).2
      have Km:¬ vO (s.extract i s.size) ⟨#[37,37]⟩=true:=by simp [h5]
      have Kl:¬ yG s (i+1)=true:=by simp [h27]
      exact Ue
    intro iC
    try have p54:=dF iC
    refine kP H (SC (Rm rfl (Rk rfl (Rf Dz rfl ?_))));clear H;intro a H;refine bC jv 0 (vs:=[_]) H wn rfl ?_;clear H;intro w H;refine aD ?_;refine (leave0 H results272 ?_).2
    have Km:¬ vO (s.extract i s.size) ⟨#[37,37]⟩=true:=by simp [h5]
    have Kl:¬ yG s (i+1)=true:=by simp [h27]
    exact Ue
  skip;refine dI hmx [[],[0],[0,1],[0,1,2],[],[4],[4,5],[4,5,6],ra 0 8,ra 0 9,ra 0 10,ra 0 11,ra 0 11,(ra 0 11++[12]),(ra 0 11++[12,13]),(ra 0 11++[12,13,14]),(ra 0 11++ra 12 4),ra 0 17,ra 0 18,ra 0 19] [] (by kernel_rfl) [_,_,_,.string s,_,_,_,vi i,.string (s.extract i s.size),.bool (vO (s.extract i s.size) ⟨#[37,100]⟩),.bool (decide (vO (s.extract i s.size) ⟨#[37,100]⟩=true)),undef,undef,undef,undef,undef,undef,undef,_,_] H (ay (Z0 rfl (Rm rfl)) (Z1 0 55 rfl (Rk rfl)) (Z1 1 56 rfl (Rf yM rfl)) (Z1 2 57 rfl (Ro jg 0 rfl)) (ay (Z0 rfl (Rm rfl)) (Z1 4 59 rfl (Rk rfl)) (Z1 5 60 rfl (Rf rU rfl)) (Z1 6 61 rfl (Ro aC 0 rfl)) (ay ?_ ?_ ?_ (aU 10 (aT c1) rfl rfl) (ay (aU 10 (aT c1) rfl rfl) (aU 10 (aT c1) rfl rfl) (aU 10 (aT c1) rfl rfl) (aU 10 (aT c1) rfl rfl) (ay (aU 10 (aT c1) rfl rfl) (aU 10 (aT c1) rfl rfl) (Z2 10 65 17 72 rfl (Pf (aT c1) rfl)) (Z1 18 73 rfl (Ra rfl)) cK))))) ?_
  · refine dY 3 58 7 62 rfl rfl fun _ a w G1 hG HT H fin=>?_;exact Uz
  · exact acB
  · exact abt
  clear H;intro a w G WG H hv;have H:=H.aM (hv 19 54 rfl rfl) rfl;clear hv;refine aD ⟨rfl,?_⟩;refine K5 _ _ ?_;clear K5;refine pO H rfl rfl ?_;refine kP H (SC (Rm rfl (Rk rfl (Rf Dz rfl ?_))));clear H;intro a H;refine bC jv 0 (vs:=[_]) H wn rfl ?_;clear H;intro w H;refine aD ?_;refine (leave0 H results272 ?_).2
  have Km:¬ vO (s.extract i s.size) ⟨#[37,37]⟩=true:=by simp [h5]
  have Kl:¬ yG s (i+1)=true:=by simp [h27]
  exact Ue
theorem aqi:aQ 272:=aR func272 rfl
def O4 (s:ByteArray) (i:Nat):UInt8:=if h:i < s.size then s[i] else 0
theorem alA (s:ByteArray) (i:Nat):gU s i=((O4 s i).toNat:Int):=by
 unfold gU O4;split <;> rfl
def qF (s:ByteArray) (x:wh):wh:=if gU s x.i=37 then xW s x else ⟨x.i+1,x.lit++[O4 s x.i],x.parts,x.pl,x.e⟩
def Ej (s:ByteArray):Nat->wh->wh
 | 0,x=>x
 | f+1,x=>if x.i < s.size∧x.e=0 then Ej s f (qF s x) else x
def mS (s:ByteArray) (x:wh):Nat:=if x.e=0 then s.size - x.i else 0
theorem azA {s:ByteArray} {f:Nat} {x:wh} (h:¬ (x.i < s.size∧x.e=0)):Ej s f x=x:=by
 cases f with
 | zero=>rfl
 | succ f=>rw [Ej,av h]
theorem arG (lit:List UInt8) (parts:List jW):(yO lit parts).length<=parts.length+1:=by unfold yO;split <;> simp
theorem UL {p:Prop} (h:p:=by
 refine ⟨?_,?_,?_,?_,?_,?_⟩ <;> simp only [mS,iw,kS,List.length_nil] at*<;> simp only [h.2,if_true] at*<;> omega):p:=h
theorem ajO (s:ByteArray) (x:wh) (h:x.i < s.size∧x.e=0) (h1:x.lit.length<=x.i) (h2:x.parts.length<=2*x.i) (h3:x.pl<=x.i) :
  (qF s x).i<=x.i+3∧(qF s x).lit.length<=(qF s x).i∧(qF s x).parts.length<=2*(qF s x).i∧(qF s x).pl<=(qF s x).i∧mS s (qF s x) < mS s x∧mS s x<=s.size:=by
 have hf:=arG x.lit x.parts;have hm:mS s x=s.size - x.i:=aG h.2
 unfold qF xW
 split
 ·split
  ·exact UL
  split
  ·exact UL
  split
  ·exact UL
  refine ⟨?_,?_,?_,?_,?_,?_⟩ <;> simp only [mS,iw,kS,List.length_nil] at*<;> simp only [h.2,if_true] at*<;> (try omega) <;> (simp;omega)
 refine ⟨?_,?_,?_,?_,?_,?_⟩ <;> simp only [mS,iw,kS,List.length_nil] at*<;> simp only [h.2,if_true] at*<;> omega
def CZ:wh:=⟨0,[],[],0,0⟩
def lX (s:ByteArray):wh:=Ej s s.size CZ
def KX (x:wh):Int:=if x.e=0∧9 < (x.pl:Int) then 9 else x.e
theorem O6 {p:Prop} (h:p:=by
 first
  | exact H.hp.fQ ⟨_,_,_,_,_,by rw [KX,aG ⟨by assumption,by assumption⟩],Hw⟩
  | exact H.hp.fQ ⟨_,_,_,_,_,by rw [KX,av (by first|exact fun h=>p58 h.1|exact fun h=>p64 h.2)],Hw⟩):p:=h
theorem acw {p:Prop} (h:p:=by
 intro h64 a H
 try have p64:=dT h64
 refine kP H (SC (Rm rfl (Rk rfl (Rf Dz rfl ?_))));clear H;intro a H;refine bC jv 0 (vs:=[_]) H wn rfl ?_;clear H;intro w H;refine aD ?_;refine (leave0 H results266 ?_).2
 exact O6):p:=h
theorem abw {p:Prop} (h:p:=by
 intro h64 a H
 try have p64:=dF h64
 refine iB ?_;refine (leave0 H results266 ?_).2
 exact O6):p:=h
theorem abz {p:Prop} (h:p:=by
 rw [azA (by first|exact fun h=>c0 (by omega)|exact fun h=>c1 h.2)] at hsc;exact hsc):p:=h
theorem Ph {p:Prop} (h:p:=by
 refine zk H (wg H rfl rfl (aI c0)) rfl rfl ?_;exact jk):p:=h
set_option maxHeartbeats 1000000 in
theorem azz (G:GH) (OP OO:OL) (w0:World) (b:Nat) (s:ByteArray) (p0 v0 q0:ah) (hR:BX b [] [] p0 v0 q0 OP OO) (hO:gH G (xZ b s CZ p0 v0 q0 :: (OP++OO)) w0) (hs:s.size<=1073741824) :
  Calls prog 266 #[(aJ b 0)] w0 (fU w0 G (xZ b s CZ p0 v0 q0 :: (OP++OO)) fun u G' L'=>∃ p' v' q' sJ kD,L'=iN b s (lX s).i p' v' q' (lX s).pl (KX (lX s)) :: (sJ++kD)∧BX b [] (yO (lX s).lit (lX s).parts) p' v' q' sJ kD):=by
 obtain ⟨A0,c0,rfl,-,-⟩:=hR.buf.shape;obtain ⟨B0,d0,rfl,-,-⟩:=hR.prt.shape;refine jc (N:=68) (T:=[(0,_)]) func266 rfl ntmps266 rfl rfl hO ?_;intro a H;refine bD (fun _ K1=>?_);refine Cj ?_;skip;refine eX (ι:=Nat × wh × ah × Option Addr × Nat × Option Addr × Nat × OL × OL × GH) (Tc:=[(0,_)]) (Lc:=[]) (fun gh=>[]) (fun gh=>[xZ b s gh.2.1 gh.2.2.1 (.slice gh.2.2.2.1 gh.2.1.lit.length gh.2.2.2.2.1) (.slice gh.2.2.2.2.2.1 gh.2.1.parts.length gh.2.2.2.2.2.2.1)]++(gh.2.2.2.2.2.2.2.1++gh.2.2.2.2.2.2.2.2.1)) (fun gh=>gh.2.2.2.2.2.2.2.2.2) (fun gh=>BX b gh.2.1.lit gh.2.1.parts gh.2.2.1 (.slice gh.2.2.2.1 gh.2.1.lit.length gh.2.2.2.2.1) (.slice gh.2.2.2.2.2.1 gh.2.1.parts.length gh.2.2.2.2.2.2.1) gh.2.2.2.2.2.2.2.1 gh.2.2.2.2.2.2.2.2.1∧Ej s gh.1 gh.2.1=lX s∧mS s gh.2.1<=gh.1∧gh.1<=s.size∧gh.2.1.i<=s.size+3∧gh.2.1.lit.length<=gh.2.1.i∧gh.2.1.parts.length<=2*gh.2.1.i∧gh.2.1.pl<=gh.2.1.i) (fun gh=>gh.1) ((s.size,CZ,p0,A0,c0,B0,d0,OP,OO,G)) (by exact H.sub ⟨rfl,aB⟩) ?_ ?_
 ·exact ⟨hR,rfl,by simp [mS,CZ],eu _,by simp [CZ],by simp [CZ],by simp [CZ],by simp [CZ]⟩
 clear H;rintro ⟨k,x,p,vA,vc,qA,qc,Lp,Lo,g⟩ a w hI H;dsimp only at hI H;obtain ⟨hR,hsc,hmk,hks,hxi,hx1,hx2,hx3⟩:=hI;dsimp only [lca,bJ] at H;refine bD (fun _ K2=>?_);refine bD (fun _ K3=>?_)
 by_cases c0:(x.i:Int) < (s.size:Int)
 ·skip
  by_cases c1:x.e=0
  ·skip;refine dI hmx [[],[0],[0,1],[0,1,2],[],[4],[4,5],[4,5,6],ra 4 4,ra 0 9,ra 0 10,ra 0 11,ra 0 12,ra 0 13,ra 0 14,ra 0 15,ra 0 16] [] (by kernel_rfl) [_,_,_,vi x.i,_,_,_,.string s,_,_,_,_,(aJ b 0),_,vi x.e,_,_] H (ay (Z0 rfl (Rm rfl)) (Z1 0 2 rfl (Rk rfl)) (Z1 1 3 rfl (Rf rU rfl)) (Z1 2 4 rfl (Ro aC 0 rfl)) (ay (Z0 rfl (Rm rfl)) (Z1 4 6 rfl (Rk rfl)) (Z1 5 7 rfl (Rf yM rfl)) (Z1 6 8 rfl (Ro jg 0 rfl)) (ay (Z1 7 9 rfl (Rv iY rfl)) (Z2 3 5 8 10 rfl (Rc rfl)) (Z1 9 11 rfl (Rm rfl)) (Z1 10 12 rfl (YM (aI c0) rfl)) (ay ?_ (Z2 12 14 10 12 rfl (YF Dz (aI c0) rfl)) (Z2 13 15 10 12 rfl (YO jv 0 (aI c0) rfl)) (Z2 14 16 10 12 rfl (YC (aI c0) rfl)) (bF (Z2 10 12 15 17 rfl (Pt (aI c0) rfl)) cK))))) ?_
   ·refine dY 11 13 10 12 rfl rfl fun _ a w G1 hG HT H fin=>?_;exact Ph
   clear H;intro a w G afP H hv;have H:=H.aM (hv 16 18 rfl rfl) rfl;clear hv;refine aD ⟨rfl,?_⟩;refine K3 _ _ ?_;clear K3;refine Ck H rfl (aI c1) ?_;refine kP H (Kc K2 (SB (SQ fun _ K4=>SQ fun _ K5=>?_)));clear H K2;intro a H;refine dI hmx [[],[0],[0,1],[0,1,2],[],[4],[4,5],[4,5,6],ra 0 8,ra 0 9] [] (by kernel_rfl) [_,_,_,.string s,_,_,_,vi x.i,.int .u8 (gU s x.i),_] H (ay (Z0 rfl (Rm rfl)) (Z1 0 19 rfl (Rk rfl)) (Z1 1 20 rfl (Rf yM rfl)) (Z1 2 21 rfl (Ro jg 0 rfl)) (ay (Z0 rfl (Rm rfl)) (Z1 4 23 rfl (Rk rfl)) (Z1 5 24 rfl (Rf rU rfl)) (Z1 6 25 rfl (Ro aC 0 rfl)) (bF ?_ (bF (Z1 8 27 rfl (Rc rfl)) cK)))) ?_
   ·refine dY 3 22 7 26 rfl rfl fun _ a w G1 hG HT H fin=>?_;refine qW x.i iY H wn rfl rfl rfl (by omega) rfl ?_;exact Pq
   clear H;intro a w G nJ H hv;have H:=H.aM (hv 9 28 rfl rfl) rfl;clear hv;refine aD ⟨rfl,?_⟩;refine K5 _ _ ?_;clear K5;refine jS H rfl ?_ ?_
   ·intro fZ
    try have p28:=dT fZ
    refine kP H (SR fun _ K6=>Rm rfl ?_);clear H;intro a H;refine gy aqi (Li:=[]) (L:=xZ b s x p (.slice vA x.lit.length vc) (.slice qA x.parts.length qc) :: (Lp++Lo)) H wn rfl (axD _ Lp Lo _ b s x p _ _ hR (Hp.owns (Li:=[]) H.hp) (by omega) (by omega) (by omega) (by omega) (by omega)) rfl ?_;clear H;rintro v30 FX L30 a w ⟨p',v',q',sJ,kD,rfl,Qm⟩ H8 H;dsimp only [List.nil_append] at H;have hst:qF s x=xW s x:=aG p28;have hok:=ajO s x ⟨by omega,c1⟩ hx1 hx2 hx3
    have hkk:k=(k - 1)+1:=by omega
    have Xw:Ej s (k - 1) (qF s x)=lX s:=by rw [hkk,Ej,aG ⟨by omega,c1⟩] at hsc;exact hsc
    rw [<- hst] at H Qm;obtain ⟨A30,c30,rfl,-,-⟩:=Qm.buf.shape;obtain ⟨B30,d30,rfl,-,-⟩:=Qm.prt.shape;refine K6 _ _ ?_;clear K6;refine dP ?_;refine dG ((k - 1,qF s x,p',A30,c30,B30,d30,sJ,kD,FX)) (by exact H.sub ⟨rfl,aB⟩) ?_
    (try dsimp only);exact ⟨Qm,Xw,by omega,by omega,by omega,by omega,by omega,by omega⟩
   intro fZ
   try have p28:=dF fZ
   refine iB ?_;refine K4 _ _ ?_;clear K4;refine bD (fun _ K7=>?_);refine dI hmx [[],[0],[0,1],[],[3],[3,4],[3,4,5],[],[7],[7,8],[7,8,9],ra 3 8,ra 0 12] [12] (by kernel_rfl) [_,_,_,_,_,_,.string s,_,_,_,vi x.i,.int .u8 (gU s x.i)] H (ay (Z0 rfl (Rm rfl)) (Z1 0 31 rfl (Rk rfl)) (Z1 1 32 rfl (Rf MQ rfl)) (Z0 rfl (Rm rfl)) (ay (Z1 3 34 rfl (Rk rfl)) (Z1 4 35 rfl (Rf yM rfl)) (Z1 5 36 rfl (Ro jg 0 rfl)) (Z0 rfl (Rm rfl)) (ay (Z1 7 38 rfl (Rk rfl)) (Z1 8 39 rfl (Rf rU rfl)) (Z1 9 40 rfl (Ro aC 0 rfl)) ?_ (bF (bR rfl) cK)))) ?_
   ·refine dY 6 37 10 41 rfl rfl fun _ a w G1 hG HT H fin=>?_;refine qW x.i iY H wn rfl rfl rfl (by omega) rfl ?_;exact Pq
   clear H;intro a w G rV H hv;have H:=H.aM (hv 2 33 rfl rfl) rfl;have H:=H.aM (hv 11 42 rfl rfl) rfl;clear hv;refine gy aeP (Li:=[]) (L:=xZ b s x p (.slice vA x.lit.length vc) (.slice qA x.parts.length qc) :: (Lp++Lo)) H wn rfl (akC _ Lp Lo _ b s x.i p _ qA x.parts.length qc x.pl x.e x.lit.length _ (gU s x.i) hR.ptr (Hp.owns (Li:=[]) H.hp) hR.buf (by omega)) rfl ?_;clear H;rintro v43 _ L43 a w ⟨aCU,TH,rfl,ahj,rfl⟩ EZ H;dsimp only [List.nil_append] at H;obtain ⟨Tj,U3,rfl,-,-⟩:=ahj.shape;have hst:qF s x=⟨x.i+1,x.lit++[O4 s x.i],x.parts,x.pl,x.e⟩:=av p28;have hok:=ajO s x ⟨by omega,c1⟩ hx1 hx2 hx3
   have hkk:k=(k - 1)+1:=by omega
   have Xw:Ej s (k - 1) (qF s x)=lX s:=by rw [hkk,Ej,aG ⟨by omega,c1⟩] at hsc;exact hsc
   have asO:BX b (qF s x).lit (qF s x).parts (aJ b 2) (.slice Tj (qF s x).lit.length U3) (.slice qA (qF s x).parts.length qc) Lp TH:=by
    rw [hst];exact ⟨.inr rfl,by simpa [Lib.byteCells,alA] using ahj,hR.prt⟩
   refine aD ⟨rfl,?_⟩;refine K7 _ _ ?_;clear K7;refine kP H (SC (Rm rfl (Rk rfl (bq rU aC 0 rfl rfl (Rd rfl (Rk rfl (Rf rU rfl ?_)))))));clear H;intro a H;refine bC aC 0 (vs:=[_]) H wn rfl ?_;clear H;intro w H;replace H:St _ _ _ _ _ _ (xZ b s (qF s x) (aJ b 2) (.slice Tj (qF s x).lit.length U3) (.slice qA (qF s x).parts.length qc) :: (Lp++TH)) _ _ _:=H.cast (by rw [hst];simp [xZ,iN]);refine aD ?_;refine dG ((k - 1,qF s x,(aJ b 2),Tj,U3,qA,qc,Lp,TH,_)) (by exact H.sub ⟨rfl,aB⟩) ?_
   (try dsimp only);exact ⟨asO,Xw,by omega,by omega,by omega,by omega,by omega,by omega⟩
  skip;refine dI hmx [[],[0],[0,1],[0,1,2],[],[4],[4,5],[4,5,6],ra 4 4,ra 0 9,ra 0 10,ra 0 11,ra 0 12,ra 0 13,ra 0 14,ra 0 15,ra 0 16] [] (by kernel_rfl) [_,_,_,vi x.i,_,_,_,.string s,_,_,_,_,(aJ b 0),_,vi x.e,_,_] H (ay (Z0 rfl (Rm rfl)) (Z1 0 2 rfl (Rk rfl)) (Z1 1 3 rfl (Rf rU rfl)) (Z1 2 4 rfl (Ro aC 0 rfl)) (ay (Z0 rfl (Rm rfl)) (Z1 4 6 rfl (Rk rfl)) (Z1 5 7 rfl (Rf yM rfl)) (Z1 6 8 rfl (Ro jg 0 rfl)) (ay (Z1 7 9 rfl (Rv iY rfl)) (Z2 3 5 8 10 rfl (Rc rfl)) (Z1 9 11 rfl (Rm rfl)) (Z1 10 12 rfl (YM (aI c0) rfl)) (ay ?_ (Z2 12 14 10 12 rfl (YF Dz (aI c0) rfl)) (Z2 13 15 10 12 rfl (YO jv 0 (aI c0) rfl)) (Z2 14 16 10 12 rfl (YC (aI c0) rfl)) (bF (Z2 10 12 15 17 rfl (Pt (aI c0) rfl)) cK))))) ?_
  ·refine dY 11 13 10 12 rfl rfl fun _ a w G1 hG HT H fin=>?_;exact Ph
  clear H;intro a w G afP H hv;have H:=H.aM (hv 16 18 rfl rfl) rfl;clear hv;refine aD ⟨rfl,?_⟩;refine K3 _ _ ?_;clear K3;refine pO H rfl (aT c1) ?_;refine dP ?_;refine K1 _ _ ?_;clear K1;refine bD (fun _ K8=>?_)
  have XG:x=lX s:=by
   exact abz
  subst XG;refine kP H (SC (Rm rfl ?_));clear H;intro a H;refine gy Vx (Li:=[]) (L:=xZ b s (lX s) p (.slice vA (lX s).lit.length vc) (.slice qA (lX s).parts.length qc) :: (Lp++Lo)) H wn rfl (VW _ Lp Lo _ b s (lX s).i p _ _ (lX s).pl (lX s).e (lX s).lit (lX s).parts hR (Hp.owns (Li:=[]) H.hp) (by omega) (by omega)) rfl ?_;clear H;rintro v52 Tw L52 a w ⟨p52,aAX,q52,ali,ale,rfl,Hw⟩ D6 H;dsimp only [List.nil_append] at H;obtain ⟨FQ,GQ,rfl,-,-⟩:=Hw.buf.shape;obtain ⟨B52,d52,rfl,-,-⟩:=Hw.prt.shape;refine kH H (Kn K8 (SR fun _ K9=>Rm rfl (Rk rfl (bq Dz jv 0 rfl rfl (Rc rfl (Rm rfl (Sp 58 rfl ?_ ?_))))))) <;> clear H K8
  ·intro lU a H
   try have p58:=dT lU
   refine kH H (YM lU rfl ?_);clear H;intro a H;refine zk H (wg H rfl rfl lU) rfl rfl ?_;clear H;intro a H;refine kH H (YF Qc lU rfl (YO aC 0 lU rfl (YC lU rfl (Pt lU rfl (Kz K9 (Cd rfl ?_ ?_)))))) <;> clear H K9
   ·exact acw
   exact abw
  intro lU a H
  try have p58:=dF lU
  refine kH H (bB lU rfl (aP lU rfl (Pf lU rfl (Kz K9 (Cf rfl rfl ?_)))));clear H K9;intro a H;refine iB ?_;refine (leave0 H results266 ?_).2
  exact O6
 skip;refine dI hmx [[],[0],[0,1],[0,1,2],[],[4],[4,5],[4,5,6],ra 4 4,ra 0 9,ra 0 10,ra 0 11,ra 0 12,ra 0 13,ra 0 14,ra 0 15,ra 0 16] [] (by kernel_rfl) [_,_,_,vi x.i,_,_,_,.string s,_,_,_,undef,undef,undef,undef,undef,_] H (ay (Z0 rfl (Rm rfl)) (Z1 0 2 rfl (Rk rfl)) (Z1 1 3 rfl (Rf rU rfl)) (Z1 2 4 rfl (Ro aC 0 rfl)) (ay (Z0 rfl (Rm rfl)) (Z1 4 6 rfl (Rk rfl)) (Z1 5 7 rfl (Rf yM rfl)) (Z1 6 8 rfl (Ro jg 0 rfl)) (ay (Z1 7 9 rfl (Rv iY rfl)) (Z2 3 5 8 10 rfl (Rc rfl)) (Z1 9 11 rfl (Rm rfl)) (aU 10 (aT c0) rfl rfl) (ay (aU 10 (aT c0) rfl rfl) (aU 10 (aT c0) rfl rfl) (aU 10 (aT c0) rfl rfl) (aU 10 (aT c0) rfl rfl) (bF (Z2 10 12 15 17 rfl (Pf (aT c0) rfl)) cK))))) ?_
 clear H;intro a w G afP H hv;have H:=H.aM (hv 16 18 rfl rfl) rfl;clear hv;refine aD ⟨rfl,?_⟩;refine K3 _ _ ?_;clear K3;refine pO H rfl rfl ?_;refine dP ?_;refine K1 _ _ ?_;clear K1;refine bD (fun _ aW=>?_)
 have XG:x=lX s:=by
  exact abz
 subst XG;refine kP H (SC (Rm rfl ?_));clear H;intro a H;refine gy Vx (Li:=[]) (L:=xZ b s (lX s) p (.slice vA (lX s).lit.length vc) (.slice qA (lX s).parts.length qc) :: (Lp++Lo)) H wn rfl (VW _ Lp Lo _ b s (lX s).i p _ _ (lX s).pl (lX s).e (lX s).lit (lX s).parts hR (Hp.owns (Li:=[]) H.hp) (by omega) (by omega)) rfl ?_;clear H;rintro v52 Tw L52 a w ⟨p52,aAX,q52,ali,ale,rfl,Hw⟩ D6 H;dsimp only [List.nil_append] at H;obtain ⟨FQ,GQ,rfl,-,-⟩:=Hw.buf.shape;obtain ⟨B52,d52,rfl,-,-⟩:=Hw.prt.shape;refine kH H (Kn aW (SR fun _ bM=>Rm rfl (Rk rfl (bq Dz jv 0 rfl rfl (Rc rfl (Rm rfl (Sp 58 rfl ?_ ?_))))))) <;> clear H aW
 ·intro lU a H
  try have p58:=dT lU
  refine kH H (YM lU rfl ?_);clear H;intro a H;refine zk H (wg H rfl rfl lU) rfl rfl ?_;clear H;intro a H;refine kH H (YF Qc lU rfl (YO aC 0 lU rfl (YC lU rfl (Pt lU rfl (Kz bM (Cd rfl ?_ ?_)))))) <;> clear H bM
  ·exact acw
  exact abw
 intro lU a H
 try have p58:=dF lU
 refine kH H (bB lU rfl (aP lU rfl (Pf lU rfl (Kz bM (Cf rfl rfl ?_)))));clear H bM;intro a H;refine iB ?_;refine (leave0 H results266 ?_).2
 exact O6
section
def BH (c:Int):List Dat:=[.lf (.int .u8 c)]
theorem ajY {G:GH} {c:Int} {cs:List ah} (h:aY G (BH c) cs):cs=[.int .u8 c]:=by
 simp only [BH,aY,au] at h
 obtain ⟨_,_,rfl,⟨rfl,_⟩,rfl⟩:=h
 rfl
def JH (s:ByteArray):List Int:=s.data.toList.map fun b=>(b.toNat:Int)
theorem amn (G:GH) (l:List Int):bZ G 1 (l.map BH) (l.map fun c=>Value.int .u8 c):=by
 refine ⟨l.map fun c=>[.int .u8 c],by induction l with|nil=>rfl|cons x r ih=>simp [ih],by simp,fun j r cs hr hc=>?_⟩
 rw [qL] at hr hc
 obtain ⟨x,hx,rfl⟩:=pF.1 hr
 rw [hx] at hc
 cases hc
 exact ⟨by simp only [BH,aY];exact ⟨_,_,rfl,by simp [au,Value.oneCell'],rfl⟩,rfl⟩
theorem ayj {G:GH} {sz b o n cap:Nat} {cur:Array ah} {e:TypeId} {fz:Nat × Nat} {rows:List (List Dat)} (hb:G b=some (.cells cur e fz)) (h:au (fun k=>if k=b then some (.cells cur e (0,0)) else G k) (.sl sz rows) (.slice (some ⟨b,o,none⟩) n cap)) (hr:∀ r∈rows,∃ c,r=BH c):au G (.sl sz rows) (.slice (some ⟨b,o,none⟩) n cap):=by
 simp only [au] at h |-
 obtain ⟨A,c,h1,h2,h3,h4⟩:=h
 refine ⟨A,c,h1,h2,h3,fun hn=>?_⟩
 obtain ⟨b',o',e',hrr⟩:=h4 hn
 injection h1 with e1
 subst e1
 injection e' with e2
 injection e2 with e3 e4
 subst e3;subst e4
 refine ⟨_,_,rfl,nS.mk fun k r hk=>?_⟩
 obtain ⟨cs,g1,g2,g3⟩:=hrr.get hk
 refine ⟨cs,g1,fun j u hj=>?_,?_⟩
 ·have:=g2 j u hj
  unfold aH at this |-
  simp only [if_true] at this
  rw [hb];exact this
 ·obtain ⟨c,rfl⟩:=hr r (lQ hk)
  have:=ajY g3
  subst this
  simp only [BH,aY];exact ⟨_,_,rfl,by simp [au,Value.oneCell'],rfl⟩
section
variable {N:Nat} {D:List Deferred} {w0:World} {F:Nat->Prop} {G0 G:GH} {L:OL} {T:List (Nat × ah)}
variable {r:Option Nat} {P:Program} {ops:Array Oper} {Q:Exit->Act->World->Prop} {rest:List Oper} {a:Act} {w:World}
variable {d:Nat} {ty:TypeId} {pos:String} {aN:Array Edge} {g:Option (Nat × Bool)}
theorem aAR {w:World} {b o n:Nat} {c:Array ah} {e:TypeId} {fz:Nat × Nat} (h:w.heap[b]?=some (.cells c e fz)) (hn:n≠0):∃ Hf,wm b (.cells c e Hf) w (w.freeze ⟨b,o,none⟩ n):=by
 unfold World.freeze
 rw [av hn]
 refine ⟨if fz.1 == fz.2 then (o,o+n) else (min fz.1 o,max fz.2 (o+n)),rfl,rfl,rfl,by simp,?_,fun k hk=>?_⟩
 ·simp [Array.getElem?_modify,h]
 ·simp [Array.getElem?_modify,Ne.symm hk]
theorem azd {t u e:TypeId} {x:Operand} {s:ByteArray} (ht:P.underlying t=some .string) (hu:P.underlying u=some (.slice e)) (he:P.underlying e=some (.int .u8)) (H:St N D w0 F G0 G L T a w) (hw:Region.wanted ⟨some d,.convert t u x,ty,pos,aN,g⟩ (yielded ops a.tmps)=true) (hx:ev T x=some (.string s)) (hz:s.size<=4294967296) (hd:Nat.blt d N=true)
  (k:∀ v G' a' w',(∀ k o,G k=some o->G' k=some o)->au G' (.sl 1 ((JH s).map BH)) v->St N D w0 F G0 G' L ((d,v) :: T) a' w'->WL r P ops Q rest a' w'):WL r P ops Q (⟨some d,.convert t u x,ty,pos,aN,g⟩ :: rest) a w:=by
 have hc:=Lib.run_convert_string_bytes (P:=P) w t u e s ht hu he
 have hge:=grownCap_ge w s.size 0 e
 have hml:s.size<=maxLen:=by
  have:maxLen=9223372036854775807:=rfl
  omega
 have hgm:=grownCap_le_maxLen w s.size 0 e hml
 have H1:=H.hp.drew.alloc (.cells (Lib.bytesCells w e s) e)
 have hw1:(w.drew.alloc (.cells (Lib.bytesCells w e s) e)).heap[w.drew.heap.size]?=some (.cells (Lib.bytesCells w e s) e (0,0)):=H1.own _ eT
 obtain ⟨fz,hu2⟩:=aAR (o:=(Lib.bytesCells w e s).size) (n:=1) hw1 (by decide)
 have H2:=H1.upd (i:=0) rfl hu2
 have H3:St N D w0 F G0 G ((w.heap.size,.cells (Lib.bytesCells w e s) e fz) :: L) ((d,.slice (some ⟨w.heap.size,0,none⟩) s.size (grownCap w s.size 0 e)) :: T) (a.put (some d) (.slice (some ⟨w.heap.size,0,none⟩) s.size (grownCap w s.size 0 e))) (Lib.bytesWorld w e s):=H.put hd _ H2
 obtain ⟨G',hm,hb,H4⟩:=H3.fB
 have hlen:(JH s).length=s.size:=by rw [JH,bQ,vC];rfl
 have hrep:au G' (.sl 1 ((JH s).map BH)) (.slice (some ⟨w.heap.size,0,none⟩) s.size (grownCap w s.size 0 e)):=by
  refine ayj hb ?_ (fun r hr=>by obtain ⟨c,-,rfl⟩:=List.mem_map.1 hr;exact ⟨c,rfl⟩)
  refine au.vV (cur:=Lib.bytesCells w e s) (e:=e) (n:=s.size) (cap:=grownCap w s.size 0 e) (by simp) (by rw [bQ,hlen]) hge hgm ?_ (amn _ _)
  rw [Lib.bytesCells,Array.toList_append,Nat.mul_one,List.take_left' (by rw [Array.toList_map,bQ,vC];rfl)]
  simp [JH]
 have k2:=k _ _ _ _ hm hrep H4
 refine fT (v:=.slice (some ⟨w.heap.size,0,none⟩) s.size (grownCap w s.size 0 e)) (w':=Lib.bytesWorld w e s) hw rfl ?_ k2
 simp only [execOp,H.ev hx,dZ,hc,oP,tQ]
theorem azj {t yt:TypeId} {x y:Operand} {p q:ByteArray} (H:St N D w0 F G0 G L T a w) (hw:Region.wanted ⟨some d,.binOp .lss t x y yt,ty,pos,aN,g⟩ (yielded ops a.tmps)=true) (hx:ev T x=some (.string p)) (hy:ev T y=some (.string q)) (hd:Nat.blt d N=true)
  (k:∀ a',St N D w0 F G0 G L ((d,.bool (Op.bytesLess p.toList q.toList)) :: T) a' w->WL r P ops Q rest a' w):WL r P ops Q (⟨some d,.binOp .lss t x y yt,ty,pos,aN,g⟩ :: rest) a w:=by
 refine fT (v:=.bool (Op.bytesLess p.toList q.toList)) (w':=w) hw rfl ?_ (k _ (H.put hd _ H.hp))
 simp [execOp,H.ev hx,H.ev hy,dZ,eqGuard,binOp,Op.stringOp]
end
end
theorem aqh:aQ 271:=aR func271 rfl
theorem aqe:aQ 266:=aR func266 rfl
theorem aqc:aQ 264:=aR func264 rfl
theorem aAr:qK prog 340 [(0,1),(1,1),(2,2),(4,1),(5,1),(6,1)] [.string ⟨#[]⟩,.int .i64 0,.pointer none,.slice none 0 0,.slice none 0 0,.int .i64 0,.int .i64 0]:=⟨by kernel_rfl,by kernel_rfl⟩
theorem aqf:aQ 267:=aR func267 rfl
theorem arn:dH prog 318 1 1:=⟨by kernel_rfl⟩
theorem apS:aQ 246:=aR func246 rfl
theorem apT:aQ 247:=aR func247 rfl
theorem aqd:aQ 265:=aR func265 rfl
theorem apU:aQ 248:=aR func248 rfl
def TS (fv:ah) (G:GH) (c:Int) (b:Bool):Prop:=∀ (G1:GH) (w1:World),(∀ b o,G b=some o->G1 b=some o)->Hold G1 w1->tL prog fv [.int .u8 c] w1 (bK w1 G1 fun u G'=>u=.bool b)
theorem avC (G:GH) (w0:World) (hG:Hold G w0) (l:List Int) (p:Int->Bool) (v fv:ah) (hv:au G (.sl 1 (l.map BH)) v) (hf:∀ c∈l,TS fv G c (p c)) :
  Calls prog 271 #[v,fv] w0 (bK w0 G fun u G'=>u=vi (nY (l.findIdx? p))):=by
 obtain ⟨A,c,rfl,hc1,hc2,hg⟩:=hv.slice;have hml:maxLen=9223372036854775807:=rfl;rw [bQ] at *;refine eN [(0,_),(1,_)] func271 rfl ntmps271 rfl rfl hG ?_;intro a H;refine kP H (SR fun _ K1=>aj K1 rfl (SQ fun _ K2=>SR fun _ K3=>Rm rfl (Rl IX rfl (Rm rfl (Kz K3 (SB ?_))))));clear H K1 K3;intro a H;skip;refine eX (ι:=Nat × GH) (Tc:=[(0,_),(1,_),(7,_)]) (Lc:=[]) (fun gh=>[(8,vi gh.1)]) (fun gh=>[]) (fun gh=>gh.2) (fun gh=>gh.1<=l.length∧(l.take gh.1).findIdx? p=none∧(∀ b o,G b=some o->gh.2 b=some o)) (fun gh=>l.length - gh.1) ((0,G)) (by exact H.sub ⟨rfl,rfl,rfl,rfl,aB⟩) ?_ ?_
 ·exact Aq
 clear H;rintro ⟨k,g⟩ a w hI H;dsimp only at hI H;obtain ⟨hk,hno,hgm⟩:=hI;dsimp only [lca,bJ] at H;refine kP H (SR fun _ K4=>Rc rfl (Kz K4 (SQ fun _ K5=>Cd rfl ?_ ?_))) <;> clear H K4
 ·intro h9 a H
  try have p9:=dT h9
  have hk2:k < l.length:=by omega
  obtain ⟨b,o,cs,rfl,hcl,hrow,hr⟩:=hg k (BH l[k]) (by simp [hk2]);obtain rfl:=ajY hr
  have hcell:aH G b (o+k*1)=some (.int .u8 l[k]):=by simpa using hrow 0 _ rfl
  refine kP H (Kc K5 (SQ fun _ K6=>SB (SR fun _ K7=>Rm rfl (aj K7 rfl (SR fun _ K8=>Rm rfl (Rm rfl (Rm rfl (Ri IX SG rfl rfl (Rg SG rfl (aF hgm hcell) ?_)))))))));clear H K5 K7;intro a H;refine kX H wn rfl rfl (hf _ (jB hk2) _ _ hgm H.ro) rfl ?_;clear H;rintro v16 uD a w rfl uh H;refine K8 _ _ ?_;clear K8;refine jS H rfl ?_ ?_
  ·intro h16
   try have p16:=dT h16
   refine kP H (SR fun _ K9=>Rm rfl (aj K9 rfl ?_));clear H K9;intro a H;refine lr H results271 rfl ?_
   exact xE
  exact JG
 intro h9 a H
 try have p9:=dF h9
 refine dP ?_;refine K2 _ _ ?_;clear K2;refine kP H (SR fun _ aW=>aj aW rfl ?_);clear H aW;intro a H;refine lr H results271 rfl ?_
 exact xE
theorem XP (o:Option Nat):decide (0<=nY o)=o.isSome:=by cases o <;> simp [nY]
theorem anP (G:GH) (w0:World) (hG:Hold G w0) (l:List Int) (p:Int->Bool) (v fv:ah) (hv:au G (.sl 1 (l.map BH)) v) (hf:∀ c∈l,TS fv G c (p c)) :
  Calls prog 264 #[v,fv] w0 (bK w0 G fun u G'=>u=.bool (l.findIdx? p).isSome):=by
 obtain ⟨A,c,rfl,hc1,hc2,-⟩:=hv.slice;rw [bQ] at *;refine eN [(0,_),(1,_)] func264 rfl ntmps264 rfl rfl hG ?_;intro a H;refine kP H (SR fun _ K1=>aj K1 rfl (SR fun _ K2=>Rm rfl (Rm rfl ?_)));clear H K1;intro a H;refine s_call aqh H wn rfl (avC _ _ H.ro l p _ _ hv hf) rfl ?_;clear H;rintro v7 G7 a w rfl vQ H;exact kH H (Rc rfl (aj K2 rfl (LR results264 rfl fun H=>H.rt (iK (XP _)))))
def Mx (c:Int):Bool:=decide (c < 32) || decide (c=127)
theorem anQ (G:GH) (c:Int):TS (.func (.func 265) #[] #[]) G c (Mx c):=by
 intro G1 w0 hm hG;refine jJ (caps:=[]) aqd ?_;refine eN [(0,_)] func265 rfl ntmps265 rfl rfl hG ?_;intro a H;refine kP H (SR fun _ K1=>aj K1 rfl (SR fun _ K2=>Rm rfl (Rc rfl (Rm rfl (Sp 5 rfl ?_ ?_))))) <;> clear H K1
 ·intro h5 a H
  try have p5:=dT h5
  exact kH H (aP h5 rfl (Pt h5 rfl (aj K2 rfl (LR results265 rfl fun H=>H.rt (iK (by unfold Mx;first|(simp_all;done)|(simp_all;omega)))))))
 intro h5 a H
 try have p5:=dF h5
 exact kH H (YM h5 rfl (YC h5 rfl (Pf h5 rfl (aj K2 rfl (LR results265 rfl fun H=>H.rt (iK (by unfold Mx;first|(simp_all;done)|(simp_all;omega))))))))
def ze (t:ByteArray):Int:=if 64 < t.size then 10 else if sG t=false then 12 else if ((JH t).findIdx? Mx).isSome=true then 5 else KX (lX t)
def RN (t:ByteArray):List jW:=if ze t=0 then yO (lX t).lit (lX t).parts else []
theorem awg (G:GH) (l:List jW):bZ G 3 (l.map jW.dat) (Iw l):=by
 refine ⟨l.map jW.cells,rfl,by simp,fun j r cs hr hc=>?_⟩;rw [qL] at hr hc;obtain ⟨x,hx,rfl⟩:=pF.1 hr;rw [hx] at hc
 cases hc
 exact ⟨ahV G x,rfl⟩
theorem aaK {p:Prop} (h:p:=by
 first
  | exact H.rt ⟨_,by rw [he0],by rw [RN,aG he0];exact hrep⟩
  | exact H.rt ⟨_,by rw [he],by rw [RN,av (by rw [he];first|decide|assumption)];exact au.qV rfl (by decide)⟩):p:=h
theorem Pm {p:Prop} (h:p:=by
 refine eO ?_;refine (jU H results246 (.cons (fu H rfl) (.cons (fu H rfl) .nil)) ?_).1
 exact aaK):p:=h
theorem axB (G:GH) (w0:World) (hG:Hold G w0) (t:ByteArray) (ht:t.size < 4611686018427387904) :
  Calls prog 246 #[.string t] w0 (bK w0 G fun u G'=>∃ x,u=.tuple #[x,vi (ze t)]∧au G' (.sl 3 ((RN t).map jW.dat)) x):=by
 refine eN [(0,_)] func246 rfl ntmps246 rfl rfl hG ?_;intro a H;refine kP H (SR fun _ K1=>Ra rfl (aj K1 rfl (SQ fun _ K2=>SB (SR fun _ K3=>Rm rfl (Rv iY rfl (Rc rfl (aj K3 rfl (Cd rfl ?_ ?_)))))))) <;> clear H K1 K3
 ·intro h5 a H
  try have p5:=dT h5
  refine bD (fun _ K4=>?_)
  have he:ze t=10:=by rw [ze,mQ]
  refine kP H (SC (Ra rfl (aX K4 rfl ?_)));clear H K4;intro a H;exact Pm
 intro h5 a H
 try have p5:=dF h5
 refine kP H (SR fun _ K5=>Rm rfl ?_);clear H;intro a H;refine s_call MJ H wn rfl (Om _ _ H.ro t ht) rfl ?_;clear H;rintro v11 _ a w ⟨rfl,rfl⟩ - H;refine kH H (Rn rfl (aj K5 rfl (Cd rfl ?_ ?_))) <;> clear H K5
 ·intro h9 a H
  try have p9:=dT h9
  refine bD (fun _ K6=>?_)
  have he:ze t=12:=by rw [ze,dw,aG (by simpa using h9)]
  refine kP H (SC (Ra rfl (aX K6 rfl ?_)));clear H K6;intro a H;exact Pm
 intro h9 a H
 try have p9:=dF h9
 refine kP H (SR fun _ K7=>Rm rfl ?_);clear H;intro a H;refine azd iY IX Oh H wn rfl (by omega) rfl ?_;clear H;intro v15 Ey a w Cx ahn H;obtain ⟨ZH,c15,rfl,-,-,-⟩:=ahn.slice;refine s_call aqc H wn rfl (anP _ _ H.ro _ Mx _ _ ahn (fun c _=>anQ _ c)) rfl ?_;clear H;rintro v16 uD a w rfl uh H;refine kH H (aj K7 rfl (Cd rfl ?_ ?_)) <;> clear H K7
 ·intro gQ a H
  try have sw:=dT gQ
  refine bD (fun _ K8=>?_)
  have he:ze t=5:=by rw [ze,dw,av (by simpa using h9),aG gQ]
  refine kP H (SC (Ra rfl (aX K8 rfl ?_)));clear H K8;intro a H;exact Pm
 intro gQ a H
 try have sw:=dF gQ
 refine kP H (Kc K2 (SR fun _ K9=>Rm rfl ?_));clear H K2;intro a H;refine jD aAr [_,_,_,_,_,_,_] H wn rfl rfl rfl rfl ?_;clear H;intro a H;refine dW (cs:=[_,_,_,_,_,_,_]) H wn rfl rfl rfl ?_;clear H;intro b19 a w asU H;refine kH H (aj K9 rfl (SQ fun _ aW=>SR fun _ bM=>Rm rfl ?_));clear H K9;intro a H;refine gy aqe (Li:=[]) (L:=[xZ b19 t CZ (.pointer none) (.slice none 0 0) (.slice none 0 0)]) H wn rfl (azz _ [] [] _ b19 t _ _ _ ⟨.inl rfl,cu.nil,cu.nil⟩ (Hp.owns (Li:=[]) H.hp) (by omega)) rfl ?_;clear H;rintro v21 Tn zu a w ⟨p',v',q',sJ,kD,rfl,WH⟩ Cy H;dsimp only [List.nil_append] at H;obtain ⟨FP,c21,rfl,-,-⟩:=WH.buf.shape;obtain ⟨B21,d21,rfl,-,-⟩:=WH.prt.shape;refine bM _ _ ?_;clear bM;refine bD (fun _ bU=>?_)
 have he:ze t=KX (lX t):=by rw [ze,dw,av (by simpa using h9),av (by simp [gQ])]
 refine kP H (SC (Rm rfl (Rk rfl (bq Dz jv 0 rfl rfl (Rc rfl (Kn bU (Cd rfl ?_ ?_))))))) <;> clear H bU
 ·intro jC a H
  try have p26:=dT jC
  refine bD (fun _ bY=>?_);have H:=H.sub (T':=[(4,_)]) ⟨rfl,aB⟩;refine dI hmx [[],[0],[0,1],[0,1,2],[],ra 0 5] [] (by kernel_rfl) [_,_,_,vi (KX (lX t)),_,_] H (ay (Z0 rfl (Rm rfl)) (Z1 0 27 rfl (Rk rfl)) (Z1 1 28 rfl (Rf Dz rfl)) (Z1 2 29 rfl (Ro jv 0 rfl)) (bF (Z0 rfl (Ra rfl)) (bF (Z1 3 30 rfl (Ra rfl)) cK))) ?_
  clear H;intro a w G wK H hv;have H:=H.aM (hv 4 2 rfl rfl) rfl;have H:=H.aM (hv 5 3 rfl rfl) rfl;clear hv;refine aD ⟨rfl,?_⟩;refine bY _ _ ?_;clear bY;exact Pm
 intro jC a H
 try have p26:=dF jC
 refine iB ?_;refine aW _ _ ?_;clear aW;refine bD (fun _ cZ=>?_)
 have he0:ze t=0:=by rw [he];omega
 have H:=(St.cast H (show _=[_]++(sJ++kD) from rfl)).perm (List.Perm.append_left _ pK);have H:=St.un H;obtain ⟨Gr,hmr,hrep,H⟩:=St.qp (Li:=[_]++kD) (Lo:=sJ) H WH.prt (rows:=(yO (lX t).lit (lX t).parts).map jW.dat) (by simp) (awg _ _);dsimp only [lca,bJ] at H;refine kP H (SC (Rm rfl (Rk rfl (bq MR Oc 0 rfl rfl (Ra rfl (aX cZ rfl ?_))))));clear H cZ;intro a H;refine eO ?_;refine (jU H results246 (.cons (fu H rfl) (.cons (fu H rfl) .nil)) ?_).1
 exact aaK
structure ql where
 fmt:Int
 start:Int
 Bv:ByteArray
 restart:Int
def ql.dat (x:ql):List Dat:=[li x.fmt,li x.start,.lf (.string x.Bv),li x.restart]
abbrev ql.cells (x:ql):List ah:=[vi x.fmt,vi x.start,.string x.Bv,vi x.restart]
theorem awj {G:GH} {x:ql} {cs:List ah} (h:aY G x.dat cs):cs=x.cells:=by
 simp only [ql.dat,aY,au] at h
 exact abv
theorem avA (G:GH) (w0:World) (hG:Hold G w0) (l:List jW) (p:jW->Bool) (v fv:ah) (hv:au G (.sl 3 (l.map jW.dat)) v) (hf:∀ x∈l,uG fv G x.dat (p x)) :
  Calls prog 267 #[v,fv] w0 (bK w0 G fun u G'=>u=vi (nY (l.findIdx? p))):=by
 obtain ⟨A,c,rfl,hc1,hc2,hg⟩:=hv.slice;have hml:maxLen=9223372036854775807:=rfl;rw [bQ] at *;refine eN [(0,_),(1,_)] func267 rfl ntmps267 rfl rfl hG ?_;intro a H;refine kP H (SR fun _ K1=>aj K1 rfl (SQ fun _ K2=>SR fun _ K3=>Rm rfl (Rl Ll rfl (Rm rfl (Kz K3 (SB ?_))))));clear H K1 K3;intro a H;skip;refine eX (ι:=Nat × GH) (Tc:=[(0,_),(1,_),(7,_)]) (Lc:=[]) (fun gh=>[(8,vi gh.1)]) (fun gh=>[]) (fun gh=>gh.2) (fun gh=>gh.1<=l.length∧(l.take gh.1).findIdx? p=none∧(∀ b o,G b=some o->gh.2 b=some o)) (fun gh=>l.length - gh.1) ((0,G)) (by exact H.sub ⟨rfl,rfl,rfl,rfl,aB⟩) ?_ ?_
 ·exact Aq
 clear H;rintro ⟨k,g⟩ a w hI H;dsimp only at hI H;obtain ⟨hk,hno,hgm⟩:=hI;dsimp only [lca,bJ] at H;refine kP H (SR fun _ K4=>Rc rfl (Kz K4 (SQ fun _ K5=>Cd rfl ?_ ?_))) <;> clear H K4
 ·intro h9 a H
  try have p9:=dT h9
  have hk2:k < l.length:=by omega
  obtain ⟨b,o,cs,rfl,hcl,hrow,hr⟩:=hg k l[k].dat (by simp [hk2]);obtain rfl:=ahU hr;refine kP H (Kc K5 (SQ fun _ K6=>SB (SR fun _ K7=>Rm rfl (aj K7 rfl (SR fun _ K8=>Rm rfl (Rm rfl (Rm rfl (Ri Ll Le rfl rfl ?_))))))));clear H K5 K7;intro a H;refine bP Le (cs:=l[k].cells) H wn rfl rfl (fun j v hj=>H.hp.aH (aF hgm (hrow j v hj))) rfl ?_;clear H;intro a H;refine kX H wn rfl rfl (hf _ (jB hk2) _ _ _ hgm H.ro (ahV _ l[k])) rfl ?_;clear H;rintro v16 uD a w rfl uh H;refine K8 _ _ ?_;clear K8;refine jS H rfl ?_ ?_
  ·intro h16
   try have p16:=dT h16
   refine kP H (SR fun _ K9=>Rm rfl (aj K9 rfl ?_));clear H K9;intro a H;refine lr H results267 rfl ?_
   exact xE
  exact JG
 intro h9 a H
 try have p9:=dF h9
 refine dP ?_;refine K2 _ _ ?_;clear K2;refine kP H (SR fun _ aW=>aj aW rfl ?_);clear H aW;intro a H;refine lr H results267 rfl ?_
 exact xE
theorem anO (G:GH) (w0:World) (hG:Hold G w0) (l:List jW) (p:jW->Bool) (v fv:ah) (hv:au G (.sl 3 (l.map jW.dat)) v) (hf:∀ x∈l,uG fv G x.dat (p x)) :
  Calls prog 247 #[v,fv] w0 (bK w0 G fun u G'=>u=.bool (l.findIdx? p).isSome):=by
 obtain ⟨A,c,rfl,hc1,hc2,-⟩:=hv.slice;rw [bQ] at *;refine eN [(0,_),(1,_)] func247 rfl ntmps247 rfl rfl hG ?_;intro a H;refine kP H (SR fun _ K1=>aj K1 rfl (SR fun _ K2=>Rm rfl (Rm rfl ?_)));clear H K1;intro a H;refine s_call aqf H wn rfl (avA _ _ H.ro l p _ _ hv hf) rfl ?_;clear H;rintro v7 G7 a w rfl vQ H;exact kH H (Rc rfl (aj K2 rfl (LR results247 rfl fun H=>H.rt (iK (XP _)))))
theorem awk {G:GH} {bl:Nat} {k:Int} (hb:aH G bl 0=some (vi k)) (x:jW):uG (.func (.func 248) #[] #[(aJ bl 0)]) G x.dat (decide (k < x.level)):=by
 intro G1 w0 cs hm hG hr;refine jJ (caps:=[(aJ bl 0)]) apU ?_;obtain rfl:=ahU hr;replace hb:=aF hm hb;refine eN [(0,_),(1,_)] func248 rfl ntmps248 rfl rfl hG ?_;intro a H;refine cO (fun _ K1=>?_);refine dW (cs:=[_,_,_]) H wn rfl rfl rfl ?_;clear H;intro b2 a w hb2 H;refine kH H (aj K1 rfl (SR fun _ K2=>bq arn aC 0 rfl rfl (Rg aC rfl (by assumption) ?_)));clear H K1;intro a H;exact kH H (Rc rfl (aj K2 rfl (LR results248 rfl fun H=>H.rt rfl)))
def KH (t:ByteArray) (k:Int):Int:=if k < 1∨9 < k then 2 else if ze t=0∧((RN t).findIdx? fun x=>decide (k < x.level)).isSome=true then 6 else ze t
theorem Uf {p:Prop} (h:p:=by
 exact H.rt (dh vi (by unfold KH;(repeat' split) <;> first|rfl|(exfalso;simp_all;done)|(exfalso;simp_all;omega)|(simp_all;done)))):p:=h
theorem UY {p:Prop} (h:p:=by
 intro a H;refine lr H results223 rfl ?_
 exact Uf):p:=h
theorem awh (G:GH) (w0:World) (hG:Hold G w0) (t:ByteArray) (k:Int) (ht:t.size < 4611686018427387904) :
  Calls prog 223 #[.string t,vi k] w0 (bK w0 G fun u G'=>u=vi (KH t k)):=by
 refine eN [(0,_),(1,_)] func223 rfl ntmps223 rfl rfl hG ?_;intro a H;refine cO (fun _ K1=>?_);refine dW (cs:=[_]) H wn rfl rfl rfl ?_;clear H;intro b3 a w hb3 H;refine kH H (aj K1 rfl (SQ fun _ K2=>SR fun _ K3=>Ro aC 0 rfl (Rc rfl (Rm rfl (Sp 9 rfl ?_ ?_))))) <;> clear H K1
 ·intro h9 a H
  try have p9:=dT h9
  refine kH H (aP h9 rfl (Pt h9 rfl (Kz K3 (Ct rfl rfl (SR fun _ K4=>aj K4 rfl ?_)))));clear H K3 K4;exact UY
 intro h9 a H
 try have p9:=dF h9
 refine kH H (YO aC 0 h9 rfl (YC h9 rfl (Pf h9 rfl (Kz K3 (Cd rfl ?_ ?_))))) <;> clear H K3
 ·intro h12 a H
  try have qD:=dT h12
  refine kP H (SR fun _ K5=>aj K5 rfl ?_);clear H K5;exact UY
 intro h12 a H
 try have qD:=dF h12
 refine iB ?_;refine K2 _ _ ?_;clear K2;refine bD (fun _ K6=>?_);obtain ⟨Ga,hma,yR,H⟩:=H.fB
 have hbk:aH Ga b3 0=some (vi k):=by unfold aH;rw [yR];rfl
 refine kP H (SC (Rm rfl ?_));clear H;intro a H;refine s_call apS H wn rfl (axB _ _ H.ro t ht) rfl ?_;clear H;rintro v15 Ey a w ⟨x15,rfl,ahq⟩ Cx H;obtain ⟨ZH,c15,rfl,-,-,-⟩:=ahq.slice;replace hbk:=aF Cx hbk;refine kH H (Rm rfl ?_);clear H;intro a H;(iterate 2 refine mg H wn rfl rfl rfl ?_;clear H;intro a H);refine kH H (Ra rfl (aX K6 rfl (SQ fun _ K7=>SR fun _ K8=>Rm rfl (Rc rfl (Rm rfl (Sp 20 rfl ?_ ?_)))))) <;> clear H K6
 ·intro h20 a H
  try have za:=dT h20
  refine kH H (YM h20 rfl ?_);clear H;intro a H;refine rM H (wg H rfl rfl h20) rfl rfl ?_;clear H;intro a H;refine s_call apT H (wg H rfl rfl h20) rfl (anO _ _ H.ro _ (fun x=>decide (k < x.level)) _ _ ahq (fun x _=>awk hbk x)) rfl ?_;clear H;rintro v23 ZQ a w rfl H7 H;refine kH H (Pt h20 rfl (Kz K8 (Cd rfl ?_ ?_))) <;> clear H K8
  ·intro fC a H
   try have mR:=dT fC
   refine kP H (SC (aX K7 rfl (SR fun _ K9=>Rm rfl (aj K9 rfl ?_))));clear H K7 K9;intro a H;refine lr H results223 rfl ?_
   exact Uf
  intro fC a H
  try have mR:=dF fC
  refine kP H (Kc K7 (SR fun _ aW=>Rm rfl (aj aW rfl ?_)));clear H K7 aW;exact UY
 intro h20 a H
 try have za:=dF h20
 refine kH H (bB h20 rfl (Pf h20 rfl (Kz K8 (Cf rfl rfl (Kc K7 (SR fun _ bM=>Rm rfl (aj bM rfl ?_)))))));clear H K8 K7 bM;intro a H;refine lr H results223 rfl ?_
 exact Uf
theorem IV:Ty prog 96 4 40 [.int .i64 0,.int .i64 0,.string ⟨#[]⟩,.int .i64 0] true:=⟨by kernel_rfl,by kernel_rfl⟩
theorem FK:prog.underlying 91=some (.slice 96):=by kernel_rfl
theorem afq:dH prog 96 0 0:=⟨by kernel_rfl⟩
theorem afr:dH prog 96 1 1:=⟨by kernel_rfl⟩
theorem aru:dH prog 96 2 2:=⟨by kernel_rfl⟩
theorem apH:aQ 223:=aR func223 rfl
theorem afs:dH prog 96 3 3:=⟨by kernel_rfl⟩
def GU:Nat->List ql->Int
 | _,[]=>0
 | i,x :: r=>if x.fmt < 1∨7 < x.fmt then 3 else if x.start < 0∨32767 < x.start then 2 else if KH x.Bv ((i+1:Nat):Int)≠0 then KH x.Bv ((i+1:Nat):Int) else if x.restart < 0∨(i:Int) < x.restart then 5 else GU (i+1) r
def Ay (l:List ql):Int:=if l.length=0 then 11 else if 9 < l.length then 9 else GU 0 l
theorem Mv {l:List ql} {k:Nat} (h:k < l.length):GU k (l.drop k)=if l[k].fmt < 1∨7 < l[k].fmt then 3 else if l[k].start < 0∨32767 < l[k].start then 2 else if KH l[k].Bv ((k+1:Nat):Int)≠0 then KH l[k].Bv ((k+1:Nat):Int) else if l[k].restart < 0∨(k:Int) < l[k].restart then 5 else GU (k+1) (l.drop (k+1)):=by
 rw [oF h,GU]
theorem aaL {p:Prop} (h:p:=by
 first
  | exact H.rt (dh vi (by rw [Ay,mQ]))
  | exact H.rt (dh vi (by rw [Ay,dw,mQ]))
  | exact H.rt (dh vi (by rw [Ay,dw,dw,<- he,Mv hk2,mQ]))
  | exact H.rt (dh vi (by rw [Ay,dw,dw,<- he,Mv hk2,dw,mQ]))
  | exact H.rt (dh vi (by rw [Ay,dw,dw,<- he,Mv hk2,dw,dw,aG p45]))
  | exact H.rt (dh vi (by rw [Ay,dw,dw,<- he,Mv hk2,dw,dw,av p45,mQ]))
  | exact H.rt (dh vi (by rw [Ay,dw,dw,<- he,pJ (by omega)];rfl))):p:=h
theorem Dr {p:Prop} (h:p:=by
 intro a H;refine lr H results185 rfl ?_
 exact aaL):p:=h
theorem amW (G:GH) (w0:World) (hG:Hold G w0) (l:List ql) (v:ah) (hv:au G (.sl 4 (l.map ql.dat)) v) (ht:∀ x∈l,x.Bv.size < 4611686018427387904) :
  Calls prog 185 #[v] w0 (bK w0 G fun u G'=>u=vi (Ay l)):=by
 obtain ⟨A,c,rfl,hc1,hc2,hg⟩:=hv.slice;have hml:maxLen=9223372036854775807:=rfl;rw [bQ] at *;refine eN [(0,_)] func185 rfl ntmps185 rfl rfl hG ?_;intro a H;refine kP H (SR fun _ K1=>aj K1 rfl (SQ fun _ K2=>SB (SR fun _ K3=>Rm rfl (Rl FK rfl (Rc rfl (aj K3 rfl (Cd rfl ?_ ?_))))))) <;> clear H K1 K3
 ·intro h6 a H
  try have p6:=dT h6
  refine kP H (SR fun _ K4=>aj K4 rfl ?_);clear H K4;exact Dr
 intro h6 a H
 try have p6:=dF h6
 refine kP H (SR fun _ K5=>Rm rfl (Rl FK rfl (Rc rfl (aj K5 rfl (Cd rfl ?_ ?_))))) <;> clear H K5
 ·intro h10 a H
  try have nN:=dT h10
  refine kP H (SR fun _ K6=>aj K6 rfl ?_);clear H K6;exact Dr
 intro h10 a H
 try have nN:=dF h10
 refine kP H (Kc K2 (SQ fun _ K7=>SR fun _ K8=>Rm rfl (Rl FK rfl (Rm rfl (Kz K8 (SB ?_))))));clear H K2 K8;intro a H;skip;refine eX (ι:=Nat × GH) (Tc:=[(14,_),(15,_)]) (Lc:=[]) (fun gh=>[(16,vi gh.1)]) (fun gh=>[]) (fun gh=>gh.2) (fun gh=>gh.1<=l.length∧GU gh.1 (l.drop gh.1)=GU 0 l∧(∀ b o,G b=some o->gh.2 b=some o)) (fun gh=>l.length - gh.1) ((0,G)) (by exact H.sub ⟨rfl,rfl,rfl,aB⟩) ?_ ?_
 ·exact EG
 clear H;rintro ⟨k,g⟩ a w hI H;dsimp only at hI H;obtain ⟨hk,he,hgm⟩:=hI;dsimp only [lca,bJ] at H;refine kP H (SR fun _ K9=>Rc rfl (Kz K9 (SQ fun _ aW=>Cd rfl ?_ ?_))) <;> clear H K9
 ·intro fE a H
  try have og:=dT fE
  have hk2:k < l.length:=by omega
  obtain ⟨b,o,cs,rfl,hcl,hrow,hr⟩:=hg k l[k].dat (by simp [hk2]);obtain rfl:=awj hr;refine kP H (Kc aW (SQ fun _ bM=>SB (SR fun _ bU=>Rm rfl (Ri FK IV rfl rfl ?_))));clear H aW;intro a H;refine bP IV (cs:=l[k].cells) H wn rfl rfl (fun j v hj=>H.hp.aH (aF hgm (hrow j v hj))) rfl ?_;clear H;intro a H;refine dO IV H wn rfl ?_;clear H;intro b4 a w hb4 H;refine kH H (Ra rfl ?_);clear H;intro a H;refine bC IV 0 (vs:=[_,_,_,_]) H wn rfl ?_;clear H;intro w H;refine bU _ _ ?_;clear bU;refine kP H (SQ fun _ bY=>SB (SR fun _ cZ=>bq afq aC 0 rfl rfl (Rc rfl (Rm rfl (Sp 25 rfl ?_ ?_))))) <;> clear H
  ·intro iy a H
   try have p25:=dT iy
   refine kH H (bB iy rfl (Pt iy rfl (aj cZ rfl (Ct rfl rfl (SR fun _ dQ=>aj dQ rfl ?_)))));clear H cZ dQ;exact Dr
  intro iy a H
  try have p25:=dF iy
  refine kH H (YF afq iy rfl (YO aC 0 iy rfl (YC iy rfl (Pf iy rfl (aj cZ rfl (Cd rfl ?_ ?_)))))) <;> clear H cZ
  ·intro h21 a H
   try have wU:=dT h21
   refine kP H (SR fun _ dR=>aj dR rfl ?_);clear H dR;exact Dr
  intro h21 a H
  try have wU:=dF h21
  refine kP H (SR fun _ dK=>bq afr aC 0 rfl rfl (Rc rfl (Rm rfl (Sp 34 rfl ?_ ?_)))) <;> clear H
  ·intro fq a H
   try have p34:=dT fq
   refine kH H (bB fq rfl (Pt fq rfl (aj dK rfl (Ct rfl rfl (SR fun _ dX=>aj dX rfl ?_)))));clear H dK dX;exact Dr
  intro fq a H
  try have p34:=dF fq
  refine kH H (YF afr fq rfl (YO aC 0 fq rfl (YC fq rfl (Pf fq rfl (aj dK rfl (Cd rfl ?_ ?_)))))) <;> clear H dK
  ·intro mG a H
   try have p30:=dT mG
   refine kP H (SR fun _ fM=>aj fM rfl ?_);clear H fM;exact Dr
  intro mG a H
  try have p30:=dF mG
  refine kP H (Kc bY (SQ fun _ eP=>SR fun _ gB=>bq aru jg 0 rfl rfl (Rm rfl (Rd rfl ?_))));clear H bY;intro a H;rw [show ((k:Int)+1)=((k+1:Nat):Int) from rfl] at H;refine s_call apH H wn rfl (awh _ _ H.ro l[k].Bv ((k+1:Nat):Int) (ht _ (jB hk2))) rfl ?_;clear H;rintro v43 OD a w rfl EZ H;refine kH H (aj gB rfl (SR fun _ iH=>Rm rfl (Rc rfl (Kz iH (Cd rfl ?_ ?_))))) <;> clear H gB iH
  ·intro h45 a H
   try have p45:=dT h45
   refine kP H (SR fun _ jP=>Rm rfl (aj jP rfl ?_));clear H jP;exact Dr
  intro h45 a H
  try have p45:=dF h45
  refine kP H (Kc eP (SR fun _ jH=>bq afs aC 0 rfl rfl (Rc rfl (Rm rfl (Sp 50 rfl ?_ ?_))))) <;> clear H eP
  ·intro h50 a H
   try have p50:=dT h50
   refine kH H (aP h50 rfl (aP h50 rfl (Pt h50 rfl (Kz jH (Ct rfl rfl (SR fun _ jr=>aj jr rfl ?_))))));clear H jH jr;exact Dr
  intro h50 a H
  try have p50:=dF h50
  refine kH H (YF afs h50 rfl (YO aC 0 h50 rfl (YM h50 rfl (YC h50 rfl (Pf h50 rfl (Kz jH (Cd rfl ?_ ?_))))))) <;> clear H jH
  ·intro nW a H
   try have p55:=dT nW
   refine kP H (SR fun _ kN=>aj kN rfl ?_);clear H kN;exact Dr
  intro nW a H
  try have p55:=dF nW
  refine kP H (Kc bM (SC (Rd rfl (Rm rfl ?_))));clear H bM;intro a H;refine aD ?_;refine dG ((k+1,OD)) (by exact (H.eD (Pl:=[_]) (dN:=[]) [] (by decide) rfl).sub ⟨rfl,rfl,rfl,aB⟩) ?_
  (try dsimp only);exact ⟨by omega,by rw [Mv hk2,dw,dw,av p45,dw] at he;exact he,fun b o h=>EZ b o (hgm b o h)⟩
 intro fE a H
 try have og:=dF fE
 refine dP ?_;refine K7 _ _ ?_;clear K7;refine kP H (SR fun _ kQ=>aj kQ rfl ?_);clear H kQ;intro a H;refine lr H results185 rfl ?_
 exact aaL
theorem Da:Ty prog 32 1 24 [.slice none 0 0] false:=⟨by kernel_rfl,by kernel_rfl⟩
theorem yu:prog.underlying 32=some (.slice 93):=by kernel_rfl
theorem BG:Ty prog 93 2 32 [.int .i64 0,.slice none 0 0] true:=⟨by kernel_rfl,by kernel_rfl⟩
theorem afp:dH prog 93 0 0:=⟨by kernel_rfl⟩
theorem Zi:Ty prog 91 1 24 [.slice none 0 0] false:=⟨by kernel_rfl,by kernel_rfl⟩
theorem aev:aQ 125:=aR func125 rfl
theorem VN:dH prog 93 1 1:=⟨by kernel_rfl⟩
theorem apr:aQ 185:=aR func185 rfl
theorem JO:aQ 123:=aR func123 rfl
theorem apq:aQ 184:=aR func184 rfl
theorem apo:aQ 183:=aR func183 rfl
structure fO where
 id:Int
 levels:List ql
def fO.dat (x:fO):List Dat:=[li x.id,.sl 4 (x.levels.map ql.dat)]
structure jo where
 id:Int
 parent:Int
 author:ByteArray
 time:Int
 text:ByteArray
 done:Bool
def jo.dat (x:jo):List Dat:=[li x.id,li x.parent,.lf (.string x.author),li x.time,.lf (.string x.text),.lf (.bool x.done)]
abbrev jo.cells (x:jo):List ah:=[vi x.id,vi x.parent,.string x.author,vi x.time,.string x.text,.bool x.done]
structure mZ where
 name:ByteArray
 value:ByteArray
def mZ.dat (x:mZ):List Dat:=[.lf (.string x.name),.lf (.string x.value)]
abbrev mZ.cells (x:mZ):List ah:=[.string x.name,.string x.value]
theorem adI {G:GH} {x:jo} {cs:List ah} (h:aY G x.dat cs):cs=x.cells:=by
 simp only [jo.dat,aY,au] at h
 obtain ⟨_,_,rfl,⟨rfl,_⟩,_,_,rfl,⟨rfl,_⟩,_,_,rfl,⟨rfl,_⟩,_,_,rfl,⟨rfl,_⟩,_,_,rfl,⟨rfl,_⟩,_,_,rfl,⟨rfl,_⟩,rfl⟩:=h
 rfl
theorem aAZ {G:GH} {x:mZ} {cs:List ah} (h:aY G x.dat cs):cs=x.cells:=by
 simp only [mZ.dat,aY,au] at h
 obtain ⟨_,_,rfl,⟨rfl,_⟩,_,_,rfl,⟨rfl,_⟩,rfl⟩:=h
 rfl
theorem X4 {G:GH} {l:List fO} {A:Option Addr} {n c k:Nat} (hv:au G (.sl 2 (l.map fO.dat)) (.slice A n c)) (hk:k < l.length):∃ b o B d,A=some ⟨b,o,none⟩∧(∀ j u,[vi l[k].id,.slice B l[k].levels.length d][j]?=some u->aH G b (o+k*2+j)=some u)∧au G (.sl 4 (l[k].levels.map ql.dat)) (.slice B l[k].levels.length d):=by
 obtain ⟨A',c',he,_,_,hg⟩:=hv.slice
 injection he with e1 e2 e3
 subst e1;obtain ⟨b,o,cs,h1,h2,h3,h4⟩:=hg k l[k].dat (by simp [hk])
 simp only [fO.dat,aY] at h4
 obtain ⟨v1,_,rfl,⟨rfl,-⟩,v2,_,rfl,hl,rfl⟩:∃ v vs,cs=v :: vs∧au G (li l[k].id) v∧∃ v2 vs2,vs=v2 :: vs2∧au G (.sl 4 (l[k].levels.map ql.dat)) v2∧vs2=[]:=h4;obtain ⟨B,d,rfl,-,-,-⟩:=hl.slice;rw [bQ] at *;exact ⟨b,o,B,d,h1,h3,hl⟩
theorem avY {G:GH} {bl:Nat} {l:List fO} {A:Option Addr} {n c:Nat} (hb:aH G bl 0=some (.slice A n c)) (hv:au G (.sl 2 (l.map fO.dat)) (.slice A n c)):vB (.func (.func 184) #[] #[(aJ bl 0)]) G l.length fun k=>(l[k]?.map fO.id).getD 0:=by
 intro k hk G1 w0 hm hG;refine jJ (caps:=[(aJ bl 0)]) apq ?_;replace hb:=aF hm hb
 obtain rfl:n=l.length:=by have:=hv.len;simpa using this
 obtain ⟨b,o,B,d,rfl,hrow,-⟩:=X4 (hv.mono hm) hk;have hq:=hrow 0 _ rfl;refine eN [(0,_),(1,_)] func184 rfl ntmps184 rfl rfl hG ?_;intro a H;refine kP H (SR fun _ K1=>aj K1 rfl (SR fun _ K2=>Rg Da rfl (by assumption) ?_));clear H K1;intro a H;refine kH H (Rm rfl (Ri yu BG rfl rfl (Rf afp rfl (Rg aC rfl (by assumption) ?_))));clear H;intro a H;exact kH H (aj K2 rfl (LR results184 rfl fun H=>H.rt (by dsimp only;rw [dV hk];rfl)))
def Ir (l:List fO) (i:Nat):Int:=dL [wO (fun k=>(l[k]?.map fO.id).getD 0) i,Ay ((l[i]?.map fO.levels).getD [])]
theorem aaM {p:Prop} (h:p:=by
 exact fin H kV (rfl)):p:=h
theorem acy {p:Prop} (h:p:=by
 refine dY 0 4 1 5 rfl rfl fun _ a w G1 hG HT H fin=>?_;refine s_call aev H wn rfl (ahE _ _ H.ro k _ _ (by omega) (fun i hi=>(hcb.mono hG) i (by omega))) rfl ?_;clear H;rintro v6 G6 a w rfl kV H;exact aaM):p:=h
theorem Gx {p:Prop} (h:p:=by
 refine TM rfl fun _ a w G1 hG HT H fin=>?_;refine rM H wn rfl rfl ?_;exact jk):p:=h
theorem awc {G:GH} {bl:Nat} {l:List fO} {A:Option Addr} {n c:Nat} (hb:aH G bl 0=some (.slice A n c)) (hv:au G (.sl 2 (l.map fO.dat)) (.slice A n c)) (hl:l.length<=4294967296) (ht:∀ x∈l,∀ y∈x.levels,y.Bv.size < 4611686018427387904):vB (.func (.func 183) #[] #[(aJ bl 0)]) G l.length (Ir l):=by
 intro k hk G1 w0 hm hG;refine jJ (caps:=[(aJ bl 0)]) apo ?_;replace hb:=aF hm hb;replace hv:=hv.mono hm;have hcb:=avY hb hv
 obtain rfl:n=l.length:=by have:=hv.len;simpa using this
 obtain ⟨b,o,B,d,rfl,hrow,hlv⟩:=X4 hv hk;have hq:=hrow 1 _ rfl
 have he:Ir l k=dL [wO (fun k=>(l[k]?.map fO.id).getD 0) k,Ay l[k].levels]:=by unfold Ir;rw [dV hk];rfl
 refine eN [(0,_),(1,_)] func183 rfl ntmps183 rfl rfl hG ?_;intro a H;refine kP H (SR fun _ K1=>aj K1 rfl (SQ fun _ K2=>?_));clear H K1;intro a H;have H:=H.sub (T':=[(0,_),(1,_)]) ⟨rfl,rfl,aB⟩;refine dI hmx [[],[],[0,1],[],[],[3,4],[3,4,5],ra 3 4,ra 0 8,ra 0 9,ra 0 10,ra 0 11] [9,10,11] (by kernel_rfl) [_,.func (.func 184) #[] #[(aJ bl 0)],vi (wO (fun k=>(l[k]?.map fO.id).getD 0) k),_,_,_,_,_,vi (Ay l[k].levels)] H (ay (Z0 rfl (Rm rfl)) ?_ ?_ (X0 rfl fun hG=>Rg Da rfl (aF hG hb)) (ay (Z0 rfl (Rm rfl)) (Z2 3 7 4 8 rfl (Ri yu BG rfl rfl)) (Z1 5 9 rfl (Rf VN rfl)) (X1 6 10 rfl fun hG=>Rg Zi rfl (aF hG hq)) (ay ?_ (bR rfl) (bR rfl) (bR rfl) cK))) ?_
 ·exact Gx
 ·exact acy
 ·refine gZ 7 11 rfl rfl fun _ a w G1 hG HT H fin=>?_;refine s_call apr H wn rfl (amW _ _ H.ro _ _ (hlv.mono hG) (ht _ (jB hk))) rfl ?_;clear H;rintro v12 BM a w rfl oH H;exact fin H oH (rfl)
 clear H;intro a w G nJ H hv;have H:=H.aM (hv 2 6 rfl rfl) rfl;have H:=H.aM (hv 8 12 rfl rfl) rfl;clear hv;refine iT rP jv [_,_] [_,_] H wn rfl rfl rfl rfl rfl (by intro i q h;match i,h with|0,h=>exact h|1,h=>exact h|n+2,h=>simp at h) rfl rfl ?_;clear H;intro b13 a w Qo H;obtain ⟨FT,Ba,asR,H⟩:=H.fB;refine s_call sO H wn rfl (sQ _ _ H.ro _ _ (Ac asR)) rfl ?_;clear H;rintro v14 _ a w ⟨rfl,rfl⟩ - H;refine kH H (Ra rfl ?_);clear H;intro a H;refine aD ⟨rfl,?_⟩;refine K2 _ _ ?_;clear K2;refine lr H results183 rfl ?_;exact H.rt (by rw [he])
def Mr (l:List fO):Int:=dL [dz (decide (64 < (l.length:Int))) 9,iU (Ir l) (min l.length 64)]
theorem vB.le {fv:ah} {G:GH} {n m:Nat} {E:Nat->Int} (h:vB fv G n E) (hm:m<=n):vB fv G m E:=fun i hi=>h i (by omega)
theorem alO {p:Prop} (h:p:=by
 exact fin H iJ (dh vi (by omega))):p:=h
theorem aaN {p:Prop} (h:p:=by
 exact fin H sU (rfl)):p:=h
theorem Pj {p:Prop} (h:p:=by
 refine gZ 2 5 rfl rfl fun _ a w G1 hG HT H fin=>?_;refine s_call mO H wn rfl (mY _ _ H.ro _ 9) rfl ?_;clear H;rintro v6 G6 a w ⟨rfl,-⟩ kV H;exact aaM):p:=h
theorem Pn {p:Prop} (h:p:=by
 refine gZ 5 8 rfl rfl fun _ a w G1 hG HT H fin=>?_;refine azk H wn rfl rfl rfl ?_;clear H;intro a H;exact alO):p:=h
theorem Mk {p:Prop} (h:p:=by
 clear H;rintro v11 zq a w rfl sU H;exact aaN):p:=h
theorem amX (G:GH) (w0:World) (hG:Hold G w0) (l:List fO) (v:ah) (hv:au G (.sl 2 (l.map fO.dat)) v) (hl:l.length<=4294967296) (ht:∀ x∈l,∀ y∈x.levels,y.Bv.size < 4611686018427387904) :
  Calls prog 120 #[v] w0 (bK w0 G fun u G'=>u=vi (Mr l)):=by
 obtain ⟨A,c,rfl,hc1,hc2,-⟩:=hv.slice;rw [bQ] at *;refine eN [(0,_)] func120 rfl ntmps120 rfl rfl hG ?_;intro a H;refine cO (fun _ K1=>?_);refine dW (cs:=[_]) H wn rfl rfl rfl ?_;clear H;intro b1 a w hb1 H;refine kH H (aj K1 rfl (SQ fun _ K2=>?_));clear H K1;intro a H;have H:=H.sub (T':=[(1,_)]) ⟨rfl,aB⟩;obtain ⟨Ga,hma,hb1',H⟩:=H.fB
 have hbl:aH Ga b1 0=some (.slice A l.length c):=by unfold aH;rw [hb1'];rfl
 have hcb:=awc hbl (hv.mono hma) hl ht;refine dI hmx [[],[0],[0,1],[0,1,2],[],[4],[4,5],[],ra 0 8,ra 0 9,ra 0 10,ra 0 11] [9,10,11] (by kernel_rfl) [_,_,_,vi (dz (decide (64 < (l.length:Int))) 9),_,_,vi ((min l.length 64:Nat):Int),.func (.func 183) #[] #[(aJ b1 0)],vi (iU (Ir l) (min l.length 64))] H (ay (X0 rfl fun hG=>Rg Da rfl (aF hG hbl)) (Z1 0 3 rfl (Rl yu rfl)) (Z1 1 4 rfl (Rc rfl)) ?_ (ay (X0 rfl fun hG=>Rg Da rfl (aF hG hbl)) (Z1 4 7 rfl (Rl yu rfl)) ?_ ?_ (ay ?_ (bR rfl) (bR rfl) (bR rfl) cK))) ?_
 ·exact Pj
 ·exact Pn
 ·exact Gx
 ·refine dY 6 9 7 10 rfl rfl fun _ a w G1 hG HT H fin=>?_;refine s_call JO H wn rfl (LY _ _ H.ro (min l.length 64) (Ir l) _ (by omega) ((hcb.mono hG).le (Nat.min_le_left _ _))) rfl ?_;exact Mk
 clear H;intro a w G nJ H hv;have H:=H.aM (hv 3 6 rfl rfl) rfl;have H:=H.aM (hv 8 11 rfl rfl) rfl;clear hv;refine iT rP jv [_,_] [_,_] H wn rfl rfl rfl rfl rfl (by intro i q h;match i,h with|0,h=>exact h|1,h=>exact h|n+2,h=>simp at h) rfl rfl ?_;clear H;intro b12 a w Hy H;obtain ⟨BM,Cw,Hz,H⟩:=H.fB;refine s_call sO H wn rfl (sQ _ _ H.ro _ _ (Ac Hz)) rfl ?_;clear H;rintro v13 _ a w ⟨rfl,rfl⟩ - H;refine kH H (Ra rfl ?_);clear H;intro a H;refine aD ⟨rfl,?_⟩;refine K2 _ _ ?_;clear K2;refine lr H results120 rfl ?_;exact wz
theorem mX:prog.underlying 31=some (.slice 192):=by kernel_rfl
theorem kZ:Ty prog 192 6 72 [.int .i64 0,.int .i64 0,.string ⟨#[]⟩,.int .i64 0,.int .i64 0,.slice none 0 0] true:=⟨by kernel_rfl,by kernel_rfl⟩
theorem zL:dH prog 192 1 1:=⟨by kernel_rfl⟩
theorem JU:dH prog 192 2 2:=⟨by kernel_rfl⟩
theorem xM:dH prog 192 0 0:=⟨by kernel_rfl⟩
theorem aeN:aQ 243:=aR func243 rfl
theorem apG:aQ 221:=aR func221 rfl
theorem apQ:aQ 244:=aR func244 rfl
theorem apR:aQ 245:=aR func245 rfl
structure bX where
 id:Int
 kind:Int
 name:ByteArray
 base:Int
 next:Int
 props:List aL
def bX.dat (x:bX):List Dat:=[li x.id,li x.kind,.lf (.string x.name),li x.base,li x.next,.sl 2 (x.props.map aL.dat)]
theorem Sy {G:GH} {x:bX} {cs:List ah} (h:aY G x.dat cs):∃ A c,cs=[vi x.id,vi x.kind,.string x.name,vi x.base,vi x.next,.slice A x.props.length c]∧au G (.sl 2 (x.props.map aL.dat)) (.slice A x.props.length c):=by
 simp only [bX.dat,aY] at h
 obtain ⟨v1,_,rfl,h1,v2,_,rfl,h2,v3,_,rfl,h3,v4,_,rfl,h4,v5,_,rfl,h5,v6,_,rfl,h6,rfl⟩:=h
 simp only [au] at h1 h2 h3 h4 h5
 obtain ⟨rfl,-⟩:=h1;obtain ⟨rfl,-⟩:=h2;obtain ⟨rfl,-⟩:=h3;obtain ⟨rfl,-⟩:=h4;obtain ⟨rfl,-⟩:=h5;obtain ⟨A,c,rfl,-,-,-⟩:=h6.slice;rw [bQ] at *;exact ⟨A,c,rfl,h6⟩
theorem Em {G:GH} {l:List bX} {A:Option Addr} {n c k:Nat} (hv:au G (.sl 6 (l.map bX.dat)) (.slice A n c)) (hk:k < l.length):∃ b o pA pc,A=some ⟨b,o,none⟩∧(∀ j u,[vi l[k].id,vi l[k].kind,.string l[k].name,vi l[k].base,vi l[k].next,.slice pA l[k].props.length pc][j]?=some u->aH G b (o+k*6+j)=some u)∧au G (.sl 2 (l[k].props.map aL.dat)) (.slice pA l[k].props.length pc) ∧
  aY G l[k].dat [vi l[k].id,vi l[k].kind,.string l[k].name,vi l[k].base,vi l[k].next,.slice pA l[k].props.length pc]:=by
 obtain ⟨A',c',he,_,_,hg⟩:=hv.slice
 injection he with e1 e2 e3
 subst e1;obtain ⟨b,o,cs,h1,h2,h3,h4⟩:=hg k l[k].dat (by simp [hk]);obtain ⟨pA,pc,rfl,hp⟩:=Sy h4;exact ⟨b,o,pA,pc,h1,h3,hp,h4⟩
def okB (x:Int):Bool:=decide (32<=x∧x<=126)
def IB (s:ByteArray) (k:Nat):Bool:=(List.range k).all fun i=>okB (gU s i)
def KE (s:ByteArray):Bool:=decide (s.size≠0∧s.size<=40∧gU s 0≠32∧gU s (s.size - 1)≠32) && IB s s.size
theorem awE (s:ByteArray) (k:Nat):IB s (k+1)=(IB s k && okB (gU s k)):=by simp [IB,List.range_succ]
theorem awD {s:ByteArray} {k:Nat} (hk:k < s.size) (h:okB (gU s k)=false):IB s s.size=false:=by
 rw [IB,List.all_eq_false];exact ⟨k,by simpa using hk,by simp [h]⟩
theorem Gq {p:Prop} (h:p:=by
 first
  | exact H.rt (iK (by rw [KE,qN (by omega),LX]))
  | exact H.rt (iK (by rw [KE,nT (by omega),show s.size=k by omega,hno];rfl))
  | exact H.rt (iK (by rw [KE,awD (k:=k) (by omega) (qN (by omega)),Bool.and_false]))):p:=h
theorem QY (G:GH) (w0:World) (hG:Hold G w0) (s:ByteArray) (hs:s.size<=4611686018427387904):Calls prog 218 #[.string s] w0 (bK w0 G fun u G'=>u=.bool (KE s)):=by
 refine eN [(0,_)] func218 rfl ntmps218 rfl rfl hG ?_;intro a H;refine kP H (SR fun _ K1=>aj K1 rfl (SQ fun _ K2=>SR fun _ K3=>Rm rfl (Rv iY rfl (Rc rfl (Rm rfl (Sp 7 rfl ?_ ?_)))))) <;> clear H K1
 ·intro h7 a H
  try have p7:=dT h7
  refine kH H (bB h7 rfl (Pt h7 rfl (Rm rfl (bB rfl rfl (Pt rfl rfl (Rm rfl (bB rfl rfl (bB rfl rfl (Pt rfl rfl (Kz K3 (Ct rfl rfl (SR fun _ K4=>aj K4 rfl ?_))))))))))));clear H K3 K4;intro a H;refine lr H results218 rfl ?_
  exact Gq
 intro h7 a H
 try have p7:=dF h7
 refine kH H (YM h7 rfl ?_);clear H;intro a H;refine FC iY H (wg H rfl rfl h7) rfl rfl ?_;clear H;intro a H;refine kH H (YC h7 rfl (Pf h7 rfl (Rm rfl (Sp 12 rfl ?_ ?_)))) <;> clear H
 ·intro h12 a H
  try have qD:=dT h12
  refine kH H (bB h12 rfl (Pt h12 rfl (Rm rfl (bB rfl rfl (bB rfl rfl (Pt rfl rfl (Kz K3 (Ct rfl rfl (SR fun _ K5=>aj K5 rfl ?_)))))))));clear H K3 K5;intro a H;refine lr H results218 rfl ?_
  exact Gq
 intro h12 a H
 try have qD:=dF h12
 refine kH H (YM h12 rfl ?_);clear H;intro a H;refine qW 0 iY H (wg H rfl rfl h12) rfl rfl rfl (by omega) rfl ?_;clear H;intro a H;rw [<- oQ] at H;refine kH H (YC h12 rfl (Pf h12 rfl (Rm rfl (Sp 17 rfl ?_ ?_)))) <;> clear H
 ·intro fE a H
  try have og:=dT fE
  refine kH H (bB fE rfl (bB fE rfl (Pt fE rfl (Kz K3 (Ct rfl rfl (SR fun _ K6=>aj K6 rfl ?_))))));clear H K3 K6;intro a H;refine lr H results218 rfl ?_
  exact Gq
 intro fE a H
 try have og:=dF fE
 refine kH H (YM fE rfl (YM fE rfl ?_));clear H;intro a H;refine FC iY H (wg H rfl rfl fE) rfl rfl ?_;clear H;intro a H;refine zl _ H (wg H rfl rfl fE) rfl rfl rfl (by omega) (by omega) rfl ?_;clear H;intro a H;refine qW (s.size - 1) iY H (wg H rfl rfl fE) rfl rfl (by omega) (by omega) rfl ?_;clear H;intro a H;rw [<- oQ] at H;refine kH H (YC fE rfl (Pf fE rfl (Kz K3 (Cd rfl ?_ ?_)))) <;> clear H K3
 ·intro fC a H
  try have mR:=dT fC
  refine kP H (SR fun _ K7=>aj K7 rfl ?_);clear H K7;intro a H;refine lr H results218 rfl ?_
  exact Gq
 intro fC a H
 try have mR:=dF fC
 refine kP H (Kc K2 (SQ fun _ K8=>SR fun _ K9=>Rm rfl (Rv iY rfl (Rm rfl (Kz K9 (SB ?_))))));clear H K2 K9;intro a H;skip;refine eX (ι:=Nat) (Tc:=[(0,_),(26,_)]) (Lc:=[]) (fun gh=>[(27,vi gh)]) (fun gh=>[]) (fun gh=>G) (fun gh=>gh<=s.size∧IB s gh=true) (fun gh=>s.size - gh) (0) (by exact H.sub ⟨rfl,rfl,rfl,aB⟩) ?_ ?_
 ·exact Ju
 clear H;intro k a w hI H;obtain ⟨hk,hno⟩:=hI;dsimp only [lca,bJ] at H;refine kP H (SR fun _ aW=>Rc rfl (Kz aW (SQ fun _ bM=>Cd rfl ?_ ?_))) <;> clear H aW
 ·intro fZ a H
  try have p28:=dT fZ
  refine kP H (Kc bM (SQ fun _ bU=>SB (SR fun _ bY=>Rm rfl (aj bY rfl (SR fun _ cZ=>Rm rfl (Rm rfl ?_))))));clear H bM bY;intro a H;refine qW k iY H wn rfl rfl rfl (by omega) rfl ?_;clear H;intro a H;rw [<- oQ] at H;refine kH H (Rc rfl (Rm rfl (Sp 34 rfl ?_ ?_))) <;> clear H
  ·intro fq a H
   try have p34:=dT fq
   refine kH H (aP fq rfl (aP fq rfl (Pt fq rfl (Kz cZ (Ct rfl rfl (SR fun _ dQ=>aj dQ rfl ?_))))));clear H cZ dQ;intro a H;refine lr H results218 rfl ?_
   exact Gq
  intro fq a H
  try have p34:=dF fq
  refine kH H (YM fq rfl (YM fq rfl ?_));clear H;intro a H;refine qW k iY H (wg H rfl rfl fq) rfl rfl rfl (by omega) rfl ?_;clear H;intro a H;rw [<- oQ] at H;refine kH H (YC fq rfl (Pf fq rfl (Kz cZ (Cd rfl ?_ ?_)))) <;> clear H cZ
  ·intro jL a H
   try have p39:=dT jL
   refine kP H (SR fun _ dR=>aj dR rfl ?_);clear H dR;intro a H;refine lr H results218 rfl ?_
   exact Gq
  intro jL a H
  try have p39:=dF jL
  refine kP H (Kc bU (SC (Rd rfl (Rm rfl ?_))));clear H bU;intro a H;refine aD ?_;refine dG ((k+1)) (by exact H.sub ⟨rfl,rfl,rfl,aB⟩) ?_
  exact ⟨by omega,by rw [awE,hno];simp [okB];omega⟩
 intro fZ a H
 try have p28:=dF fZ
 refine dP ?_;refine K8 _ _ ?_;clear K8;refine kP H (SR fun _ dK=>aj dK rfl ?_);clear H dK;intro a H;refine lr H results218 rfl ?_
 exact Gq
theorem ahF (G:GH) (w0:World) (hG:Hold G w0) (l:List bX) (p:bX->Bool) (v fv:ah) (hv:au G (.sl 6 (l.map bX.dat)) v) (hf:∀ x∈l,uG fv G x.dat (p x)) :
  Calls prog 243 #[v,fv] w0 (bK w0 G fun u G'=>u=vi (nY (l.findIdx? p))):=by
 obtain ⟨A,c,rfl,hc1,hc2,-⟩:=hv.slice;have hml:maxLen=9223372036854775807:=rfl;rw [bQ] at *;refine eN [(0,_),(1,_)] func243 rfl ntmps243 rfl rfl hG ?_;intro a H;refine kP H (SR fun _ K1=>aj K1 rfl (SQ fun _ K2=>SR fun _ K3=>Rm rfl (Rl mX rfl (Rm rfl (Kz K3 (SB ?_))))));clear H K1 K3;intro a H;skip;refine eX (ι:=Nat × GH) (Tc:=[(0,_),(1,_),(7,_)]) (Lc:=[]) (fun gh=>[(8,vi gh.1)]) (fun gh=>[]) (fun gh=>gh.2) (fun gh=>gh.1<=l.length∧(l.take gh.1).findIdx? p=none∧(∀ b o,G b=some o->gh.2 b=some o)) (fun gh=>l.length - gh.1) ((0,G)) (by exact H.sub ⟨rfl,rfl,rfl,rfl,aB⟩) ?_ ?_
 ·exact Aq
 clear H;rintro ⟨k,g⟩ a w hI H;dsimp only at hI H;obtain ⟨hk,hno,hgm⟩:=hI;dsimp only [lca,bJ] at H;refine kP H (SR fun _ K4=>Rc rfl (Kz K4 (SQ fun _ K5=>Cd rfl ?_ ?_))) <;> clear H K4
 ·intro h9 a H
  try have p9:=dT h9
  have hk2:k < l.length:=by omega
  obtain ⟨b,o,pA,pc,rfl,hrow,hp,hrep⟩:=Em (hv.mono hgm) hk2;refine kP H (Kc K5 (SQ fun _ K6=>SB (SR fun _ K7=>Rm rfl (aj K7 rfl (SR fun _ K8=>Rm rfl (Rm rfl (Rm rfl (Ri mX kZ rfl rfl ?_))))))));clear H K5 K7;intro a H;refine bP kZ (cs:=[_,_,_,_,_,_]) H wn rfl rfl (fun j v hj=>H.hp.aH (hrow j v hj)) rfl ?_;clear H;intro a H;refine kX H wn rfl rfl (hf _ (jB hk2) _ _ _ hgm H.ro hrep) rfl ?_;clear H;rintro v16 uD a w rfl uh H;refine K8 _ _ ?_;clear K8;refine jS H rfl ?_ ?_
  ·intro h16
   try have p16:=dT h16
   refine kP H (SR fun _ K9=>Rm rfl (aj K9 rfl ?_));clear H K9;intro a H;refine lr H results243 rfl ?_
   exact xE
  exact JG
 intro h9 a H
 try have p9:=dF h9
 refine dP ?_;refine K2 _ _ ?_;clear K2;refine kP H (SR fun _ aW=>aj aW rfl ?_);clear H aW;intro a H;refine lr H results243 rfl ?_
 exact xE
def NS (p q:ByteArray):Bool:=p.toList == q.toList
theorem arx {G:GH} {bk bn:Nat} {kind:Int} {name:ByteArray} (hk:aH G bk 0=some (vi kind)) (hn:aH G bn 0=some (.string name)) (x:bX):uG (.func (.func 244) #[] #[(aJ bk 0),(aJ bn 0)]) G x.dat (decide (x.kind=kind) && NS x.name name):=by
 intro G1 w0 cs hm hG hr;refine jJ (caps:=[(aJ bk 0),(aJ bn 0)]) apQ ?_;obtain ⟨pA,pc,rfl,-⟩:=Sy hr;replace hk:=aF hm hk;replace hn:=aF hm hn;refine eN [(0,_),(1,_),(2,_)] func244 rfl ntmps244 rfl rfl hG ?_;intro a H;refine cO (fun _ K1=>?_);refine dW (cs:=[_,_,_,_,_,_]) H wn rfl rfl rfl ?_;clear H;intro b3 a w hb3 H;refine kH H (aj K1 rfl (SR fun _ K2=>bq zL aC 0 rfl rfl (Rg aC rfl (by assumption) ?_)));clear H K1;intro a H;refine kH H (Rc rfl (Rm rfl (Sp 9 rfl ?_ ?_))) <;> clear H
 ·intro h9 a H
  try have p9:=dT h9
  refine kH H (YF JU h9 rfl (YO jg 0 h9 rfl (YR jg h9 rfl (by assumption) ?_)));clear H;intro a H;refine FB H (wg H rfl rfl h9) rfl rfl rfl ?_;clear H;intro a H;exact kH H (Pt h9 rfl (aj K2 rfl (LR results244 rfl fun H=>H.rt (by unfold NS;simp_all))))
 intro h9 a H
 try have p9:=dF h9
 exact kH H (aP h9 rfl (aP h9 rfl (Pf h9 rfl (aj K2 rfl (LR results244 rfl fun H=>H.rt (by unfold NS;simp_all))))))
theorem arw {G:GH} {bi:Nat} {id:Int} (hb:aH G bi 0=some (vi id)) (x:bX):uG (.func (.func 245) #[] #[(aJ bi 0)]) G x.dat (decide (x.id=id)):=by
 intro G1 w0 cs hm hG hr;refine jJ (caps:=[(aJ bi 0)]) apR ?_;obtain ⟨pA,pc,rfl,-⟩:=Sy hr;replace hb:=aF hm hb;refine eN [(0,_),(1,_)] func245 rfl ntmps245 rfl rfl hG ?_;intro a H;refine cO (fun _ K1=>?_);refine dW (cs:=[_,_,_,_,_,_]) H wn rfl rfl rfl ?_;clear H;intro b2 a w hb2 H;refine kH H (aj K1 rfl (SR fun _ K2=>bq xM aC 0 rfl rfl (Rg aC rfl (by assumption) ?_)));clear H K1;intro a H;exact kH H (Rc rfl (aj K2 rfl (LR results245 rfl fun H=>H.rt rfl)))
def EO (l:List bX) (kind:Int) (name:ByteArray):Option Nat:=l.findIdx? fun x=>decide (x.kind=kind) && NS x.name name
def Qf (l:List bX) (id:Int):Option Nat:=l.findIdx? fun x=>decide (x.id=id)
theorem ahL (o:Option Nat):decide (0<=nY o)=o.isSome:=by cases o <;> simp [nY]
theorem arz (G:GH) (w0:World) (hG:Hold G w0) (l:List bX) (kind:Int) (name:ByteArray) (v:ah) (hv:au G (.sl 6 (l.map bX.dat)) v) :
  Calls prog 219 #[v,vi kind,.string name] w0 (bK w0 G fun u G'=>u=.tuple #[vi (max (nY (EO l kind name)) 0),.bool (EO l kind name).isSome]):=by
 obtain ⟨A,c,rfl,hc1,hc2,-⟩:=hv.slice;rw [bQ] at *;refine eN [(0,_),(1,_),(2,_)] func219 rfl ntmps219 rfl rfl hG ?_;intro a H;refine cO (fun _ K1=>?_);refine dW (cs:=[_]) H wn rfl rfl rfl ?_;clear H;intro b4 a w hb4 H;refine dW (cs:=[_]) H wn rfl rfl rfl ?_;clear H;intro b5 a w hb5 H;refine kH H (Ra rfl (aj K1 rfl (SQ fun _ K2=>?_)));clear H K1;intro a H;obtain ⟨Ga,hma,zQ,H⟩:=H.fB;obtain ⟨Gb,hmb,AY,H⟩:=H.fB
 have q4:aH Gb b4 0=some (vi kind):=by unfold aH;rw [AY];rfl
 have q5:aH Gb b5 0=some (.string name):=by unfold aH;rw [hmb _ _ zQ];rfl
 refine kP H (SC (Rm rfl ?_));clear H;intro a H;refine rM H wn rfl rfl ?_;clear H;intro a H;refine s_call aeN H wn rfl (ahF _ _ H.ro l (fun x=>decide (x.kind=kind) && NS x.name name) _ _ ((hv.mono hma).mono hmb) (fun x _=>arx q4 q5 x)) rfl ?_;clear H;rintro v11 zq a w rfl DW H;refine kH H (aX K2 rfl (SR fun _ K3=>Rm rfl ?_));clear H K2;intro a H;refine Sm H wn rfl rfl rfl ?_;clear H;intro a H;refine kH H (Rm rfl (Rc rfl (Ra rfl (aj K3 rfl ?_))));clear H K3;intro a H;refine eO ?_;refine (jU H results219 (.cons (fu H rfl) (.cons (fu H rfl) .nil)) ?_).1;exact H.rt (by rw [<- ahL];rfl)
theorem arA (G:GH) (w0:World) (hG:Hold G w0) (l:List bX) (id:Int) (v:ah) (hv:au G (.sl 6 (l.map bX.dat)) v) :
  Calls prog 221 #[v,vi id] w0 (bK w0 G fun u G'=>u=.tuple #[vi (max (nY (Qf l id)) 0),.bool (Qf l id).isSome]):=by
 obtain ⟨A,c,rfl,hc1,hc2,-⟩:=hv.slice;rw [bQ] at *;refine eN [(0,_),(1,_)] func221 rfl ntmps221 rfl rfl hG ?_;intro a H;refine cO (fun _ K1=>?_);refine dW (cs:=[_]) H wn rfl rfl rfl ?_;clear H;intro b3 a w hb3 H;refine kH H (Ra rfl (aj K1 rfl (SQ fun _ K2=>?_)));clear H K1;intro a H;obtain ⟨Ga,hma,yR,H⟩:=H.fB
 have q3:aH Ga b3 0=some (vi id):=by unfold aH;rw [yR];rfl
 refine kP H (SC (Rm rfl ?_));clear H;intro a H;refine rM H wn rfl rfl ?_;clear H;intro a H;refine s_call aeN H wn rfl (ahF _ _ H.ro l (fun x=>decide (x.id=id)) _ _ (hv.mono hma) (fun x _=>arw q3 x)) rfl ?_;clear H;rintro v9 G9 a w rfl yS H;refine kH H (aX K2 rfl (SR fun _ K3=>Rm rfl ?_));clear H K2;intro a H;refine Sm H wn rfl rfl rfl ?_;clear H;intro a H;refine kH H (Rm rfl (Rc rfl (Ra rfl (aj K3 rfl ?_))));clear H K3;intro a H;refine eO ?_;refine (jU H results221 (.cons (fu H rfl) (.cons (fu H rfl) .nil)) ?_).1;exact H.rt (by rw [<- ahL];rfl)
def NK (l:List bX) (kind id:Int):Bool:=match Qf l id with|some i=>decide ((l[i]?.map bX.kind)=some kind)|none=>false
theorem aaO {p:Prop} (h:p:=by
 first
  | exact H.rt (iK (by rw [NK,<- ho];dsimp only;rw [dV hil];simp))
  | exact H.rt (iK (by rw [NK,<- ho];cases o <;> simp_all))):p:=h
theorem XO (G:GH) (w0:World) (hG:Hold G w0) (l:List bX) (kind id:Int) (v:ah) (hv:au G (.sl 6 (l.map bX.dat)) v) :
  Calls prog 181 #[v,vi kind,vi id] w0 (bK w0 G fun u G'=>u=.bool (NK l kind id)):=by
 obtain ⟨A,c,rfl,hc1,hc2,-⟩:=hv.slice;rw [bQ] at *;refine eN [(0,_),(1,_),(2,_)] func181 rfl ntmps181 rfl rfl hG ?_;intro a H;refine kP H (SR fun _ K1=>aj K1 rfl (SR fun _ K2=>Rm rfl (Rm rfl ?_)));clear H K1;intro a H;refine s_call apG H wn rfl (arA _ _ H.ro l id _ hv) rfl ?_;clear H;rintro v12 BM a w rfl Cw H;obtain ⟨o,ho⟩:∃ o,o=Qf l id:=⟨_,rfl⟩;rw [<- ho] at H;refine kH H (Rm rfl ?_);clear H;intro a H;(iterate 2 refine mg H wn rfl rfl rfl ?_;clear H;intro a H);refine kH H (Ra rfl (aj K2 rfl (SR fun _ K3=>Rm rfl (Rm rfl (Sp 16 rfl ?_ ?_))))) <;> clear H K2
 ·intro h16 a H
  try have p16:=dT h16
  obtain ⟨i,rfl⟩:=Option.isSome_iff_exists.1 h16
  have hil:i < l.length:=by
   obtain ⟨hi,-⟩:=List.findIdx?_eq_some_iff_getElem.1 ho.symm;exact hi
  rw [show max (nY (some i)) 0=(i:Int) by simp [nY]] at H;obtain ⟨b,o',pA,pc,rfl,hrow,hp,hrep⟩:=Em (hv.mono Cw) hil;have r1:aH BM b (o'+i*6+1)=some (vi l[i].kind):=hrow 1 _ rfl;refine kH H (YM h16 rfl (YM h16 rfl (YI mX kZ h16 rfl rfl (YF zL h16 rfl (YR aC h16 rfl (by assumption) ?_)))));clear H;intro a H;refine kH H (YM h16 rfl (YC h16 rfl (Pt h16 rfl (aj K3 rfl ?_))));clear H K3;intro a H;refine lr H results181 rfl ?_
  exact aaO
 intro h16 a H
 try have p16:=dF h16
 refine kH H (bB h16 rfl (aP h16 rfl (aP h16 rfl (Pf h16 rfl (aj K3 rfl ?_)))));clear H K3;intro a H;refine lr H results181 rfl ?_
 exact aaO
theorem PY:aQ 218:=aR func218 rfl
theorem apE:aQ 219:=aR func219 rfl
theorem Qb:dH prog 192 5 5:=⟨by kernel_rfl⟩
theorem apF:aQ 220:=aR func220 rfl
theorem aex:aQ 129:=aR func129 rfl
theorem au.pre {G:GH} {sz:Nat} {rows:List (List Dat)} {A:Option Addr} {n c:Nat} (h:au G (.sl sz rows) (.slice A n c)) (k:Nat) (hk:k<=rows.length):au G (.sl sz (rows.take k)) (.slice A k c):=by
 have h:=h.part 0 k (kE _) hk
 have e:(if c=0 then A else A.map (·.add (0*sz)))=A:=by
  split
  ·rfl
  cases A <;> simp [Addr.add]
 rw [e] at h
 simpa using h
theorem aok (G:GH) (w0:World) (hG:Hold G w0) (kind:Int):Calls prog 220 #[vi kind] w0 (bK w0 G fun u G'=>u=vi (if kind=1 then 2 else 1)):=by
 refine eN [(0,_)] func220 rfl ntmps220 rfl rfl hG ?_;intro a H;refine kP H (SR fun _ K1=>aj K1 rfl (SQ fun _ K2=>SR fun _ K3=>Rm rfl (Rc rfl (Kz K3 (Cd rfl ?_ ?_))))) <;> clear H K1 K3
 ·intro h4 a H
  try have p4:=dT h4
  exact kP H (SR fun _ K4=>aj K4 rfl (LR results220 rfl fun H=>H.rt (by first|(rw [mQ];done)|rw [dw])))
 intro h4 a H
 try have p4:=dF h4
 exact kP H (Kc K2 (SR fun _ K5=>aj K5 rfl (LR results220 rfl fun H=>H.rt (by first|(rw [mQ];done)|rw [dw]))))
def zX (l:List bX) (k:Nat):Option Int:=if k=0 then none else l[k - 1]?.map bX.id
theorem RI {l:List bX} {k:Nat} (h:k=0):zX l k=none:=aG h
def LZ (k:Int):Bool:=decide (k=20) || decide (k=1)
def xV (q:Option Int) (dup:Bool) (s:bX):Int :=
 if s.id < 1∨1073741824 < s.id then 18 else if q=some s.id then 7 else if Fp q s.id=true then 6 else if s.kind≠1∧s.kind≠2 then 3 else if KE s.name=false then 13 else if dup=true then 7
 else if s.props.any (fun p=>LZ p.key)=true then 4 else ru (if s.kind=1 then 2 else 1) s.props
def nM (l:List bX) (k:Nat) (s:bX):Int:=xV (zX l k) (EO (l.take k) s.kind s.name).isSome s
theorem aaP {p:Prop} (h:p:=by
 first
  | exact H.rt (dh vi e0.symm)
  | exact H.rt (dh vi e4.symm)
  | exact H.rt (dh vi e7.symm)
  | exact H.rt (dh vi e13.symm)
  | exact H.rt (dh vi e3.symm)
  | exact H.rt (dh vi e6.symm)
  | exact H.rt (dh vi (by rw [nM,xV,mQ]))):p:=h
theorem Ug {p:Prop} (h:p:=by
 exact ⟨by omega,q1',q2',by omega,by simpa using kG,fun b o h=>hm63 b o (kV b o (JZ b o h))⟩):p:=h
theorem alQ {p:Prop} (h:p:=by
 exact ⟨x.props[n],jB hn2,by simp [LZ];omega⟩):p:=h
theorem yE {p:Prop} (h:p:=by
 intro a H;refine lr H results180 rfl ?_
 exact aaP):p:=h
theorem ada {p:Prop} (h:p:=by
 intro kG a H
 try have p60:=dF kG
 refine iB ?_;refine ⟨I9,by exact H.sub ⟨rfl,rfl,rfl,aB⟩,?_⟩;exact Ug):p:=h
theorem abq {p:Prop} (h:p:=by
 rw [nM,xV,dw,av q1',av q2',av q3,av q4,av q5,aG];rw [List.any_eq_true];exact alQ):p:=h
theorem abX {p:Prop} (h:p:=by
 refine gZ 8 65 rfl rfl fun _ a w G1 hG HT H fin=>?_;refine mg H wn rfl rfl rfl ?_;exact jk):p:=h
set_option maxHeartbeats 1000000 in
theorem axk (G:GH) (w0:World) (hG:Hold G w0) (l:List bX) (k:Nat) (v:ah) (hv:au G (.sl 6 (l.map bX.dat)) v) (hk:k < l.length) (hs:l[k].name.size<=4611686018427387904) :
  Calls prog 180 #[v,vi k] w0 (bK w0 G fun u G'=>u=vi (nM l k l[k])):=by
 obtain ⟨A,c,rfl,hc1,hc2,-⟩:=hv.slice;have hml:maxLen=9223372036854775807:=rfl;rw [bQ] at *;obtain ⟨b,o,pA,pc,rfl,hrow,hp,hrep⟩:=Em hv hk;obtain ⟨x,hx⟩:∃ x,x=l[k]:=⟨_,rfl⟩;rw [<- hx] at hs hrow hp hrep |-;have hdp:∀ j v,[vi x.id,vi x.kind,.string x.name,vi x.base,vi x.next,.slice pA x.props.length pc][j]?=some v->aH G b (o+k*6+j)=some v:=hrow;obtain ⟨_,_,he0,aCw,aCx,-⟩:=hp.slice
 injection he0 with _ he1 he2
 rw [bQ] at *;subst he2
 obtain ⟨pk,hpk⟩:∃ pk,0 < k->aH G b (o+(k - 1)*6+0)=some (vi pk)∧zX l k=some pk:=by
  by_cases h0:0 < k
  ·obtain ⟨b',o',_,_,he,hr',-,-⟩:=Em hv (show k - 1 < l.length by omega)
   injection he with he
   injection he with e1 e2 e3
   subst e1;subst e2;exact ⟨_,fun _=>⟨hr' 0 _ rfl,by rw [zX,dw,dV (by omega)];rfl⟩⟩
  exact ⟨0,fun h=>absurd h h0⟩
 refine eN [(0,_),(1,_)] func180 rfl ntmps180 rfl rfl hG ?_;intro a H;refine kP H (SR fun _ K1=>aj K1 rfl (SR fun _ K2=>Rm rfl (Rm rfl (Ri mX kZ rfl rfl ?_))));clear H K1;intro a H;refine bP kZ (cs:=[_,_,_,_,_,_]) H wn rfl rfl (fun j v hj=>H.hp.aH (hrow j v hj)) rfl ?_;clear H;intro a H;refine dO kZ H wn rfl ?_;clear H;intro b5 a w hb5 H;refine bC kZ 0 (vs:=[_,_,_,_,_,_]) H wn rfl ?_;clear H;intro w H;refine K2 _ _ ?_;clear K2;refine tT (ι:=GH) (Tc:=[(0,_),(1,_),(5,_)]) (Lc:=[(_,_)]) (fun gh=>[]) (fun gh=>[]) (fun gh=>gh) (fun gh=>¬ (x.id < 1∨1073741824 < x.id)∧¬ zX l k=some x.id∧¬ Fp (zX l k) x.id=true∧¬ (x.kind≠1∧x.kind≠2)∧¬ KE x.name=false∧(∀ b o,G b=some o->gh b=some o)) (by exact H.sub ⟨rfl,rfl,rfl,aB⟩) ?_ ?_
 ·skip;refine kP H (SB (SR fun _ K3=>bq xM aC 0 rfl rfl (Rc rfl (Rm rfl (Sp 18 rfl ?_ ?_))))) <;> clear H
  ·intro h18 a H
   try have Ef:=dT h18
   refine kH H (bB h18 rfl (Pt h18 rfl (aj K3 rfl (Ct rfl rfl (SR fun _ K4=>aj K4 rfl ?_)))));clear H K3 K4;exact yE
  intro h18 a H
  try have Ef:=dF h18
  refine kH H (YF xM h18 rfl (YO aC 0 h18 rfl (YC h18 rfl (Pf h18 rfl (aj K3 rfl (Cd rfl ?_ ?_)))))) <;> clear H K3
  ·intro iV a H
   try have uo:=dT iV
   refine kP H (SR fun _ K5=>aj K5 rfl ?_);clear H K5;exact yE
  intro iV a H
  try have uo:=dF iV
  refine bD (fun _ K6=>?_)
  by_cases c0:0 < (k:Int)
  ·skip
   by_cases c1:x.id=pk
   ·skip;refine dI hmx [[],[0],[0,1],[0,1,2],ra 0 4,[0,1,2],[0,1,2],[0,1,2,6],[0,1,2,5,6,7],[0,1,2,5,6,7,8],[0,1,2,5,6,7,8,9],ra 0 11,ra 0 12,ra 0 13] [13] (by kernel_rfl) [_,_,_,_,vi x.id,_,_,vi ((k - 1:Nat):Int),_,_,_,_,_] H (ay (Z0 rfl (Rm rfl)) (Z1 0 24 rfl (Rc rfl)) (Z1 1 25 rfl (Rm rfl)) (Z1 2 26 rfl (YF xM (aI c0) rfl)) (ay (Z2 3 27 2 26 rfl (YO aC 0 (aI c0) rfl)) (Z1 2 26 rfl (YM (aI c0) rfl)) (Z1 2 26 rfl (YM (aI c0) rfl)) ?_ (ay (Z3 5 29 7 31 2 26 rfl (YI mX kZ (aI c0) rfl rfl)) (Z2 8 32 2 26 rfl (YF xM (aI c0) rfl)) (X2 9 33 2 26 rfl fun hG=>YR aC (aI c0) rfl (aF hG (hpk (by omega)).1)) (Z3 4 28 10 34 2 26 rfl (YC (aI c0) rfl)) (bF (Z2 2 26 11 35 rfl (Pt (aI c0) rfl)) (bF (bR rfl) cK))))) ?_
    ·refine dY 6 30 2 26 rfl rfl fun _ a w G1 hG HT H fin=>?_;exact zG
    clear H;intro a w G JZ H hv;have H:=H.aM (hv 12 36 rfl rfl) rfl;clear hv;refine kH H (Ra rfl ?_);clear H;intro a H;refine aD ⟨rfl,?_⟩;refine K6 _ _ ?_;clear K6;refine Ck H rfl (aI c1) ?_;refine bD (fun _ K7=>?_)
    have e7:nM l k x=7:=by rw [nM,xV,dw,aG (by rw [(hpk (by omega)).2,c1])]
    refine kP H (SC (aX K7 rfl ?_));clear H K7;exact yE
   skip;refine dI hmx [[],[0],[0,1],[0,1,2],ra 0 4,[0,1,2],[0,1,2],[0,1,2,6],[0,1,2,5,6,7],[0,1,2,5,6,7,8],[0,1,2,5,6,7,8,9],ra 0 11,ra 0 12,ra 0 13] [13] (by kernel_rfl) [_,_,_,_,vi x.id,_,_,vi ((k - 1:Nat):Int),_,_,_,_,_] H (ay (Z0 rfl (Rm rfl)) (Z1 0 24 rfl (Rc rfl)) (Z1 1 25 rfl (Rm rfl)) (Z1 2 26 rfl (YF xM (aI c0) rfl)) (ay (Z2 3 27 2 26 rfl (YO aC 0 (aI c0) rfl)) (Z1 2 26 rfl (YM (aI c0) rfl)) (Z1 2 26 rfl (YM (aI c0) rfl)) ?_ (ay (Z3 5 29 7 31 2 26 rfl (YI mX kZ (aI c0) rfl rfl)) (Z2 8 32 2 26 rfl (YF xM (aI c0) rfl)) (X2 9 33 2 26 rfl fun hG=>YR aC (aI c0) rfl (aF hG (hpk (by omega)).1)) (Z3 4 28 10 34 2 26 rfl (YC (aI c0) rfl)) (bF (Z2 2 26 11 35 rfl (Pt (aI c0) rfl)) (bF (bR rfl) cK))))) ?_
   ·refine dY 6 30 2 26 rfl rfl fun _ a w G1 hG HT H fin=>?_;exact zG
   clear H;intro a w G JZ H hv;have H:=H.aM (hv 12 36 rfl rfl) rfl;clear hv;refine kH H (Ra rfl ?_);clear H;intro a H;refine aD ⟨rfl,?_⟩;refine K6 _ _ ?_;clear K6;refine pO H rfl (aT c1) ?_;refine bD (fun _ K8=>?_)
   have q1:¬ (0 < (k:Int)∧x.id=pk):=by first|exact fun h=>c1 h.2|exact fun h=>c0 h.1
   have q1':¬ zX l k=some x.id:=fun h=>q1 (by
    by_cases h0:0 < k
    ·exact Pv
    rw [RI (by omega)] at h
    cases h)
   by_cases c3:x.id < pk
   ·skip;refine dI hmx [[],[0],[0,1],[0,1,2],ra 0 4,[0,1,2],[0,1,2],[0,1,2,6],[0,1,2,5,6,7],[0,1,2,5,6,7,8],[0,1,2,5,6,7,8,9],ra 0 11,ra 0 12,ra 0 13] [13] (by kernel_rfl) [_,_,_,_,vi x.id,_,_,vi ((k - 1:Nat):Int),_,_,_,_,_] H (ay (Z0 rfl (Rm rfl)) (Z1 0 38 rfl (Rc rfl)) (Z1 1 39 rfl (Rm rfl)) (Z1 2 40 rfl (YF xM (aI c0) rfl)) (ay (Z2 3 41 2 40 rfl (YO aC 0 (aI c0) rfl)) (Z1 2 40 rfl (YM (aI c0) rfl)) (Z1 2 40 rfl (YM (aI c0) rfl)) ?_ (ay (Z3 5 43 7 45 2 40 rfl (YI mX kZ (aI c0) rfl rfl)) (Z2 8 46 2 40 rfl (YF xM (aI c0) rfl)) (X2 9 47 2 40 rfl fun hG=>YR aC (aI c0) rfl (aF hG (aF JZ (hpk (by omega)).1))) (Z3 4 42 10 48 2 40 rfl (YC (aI c0) rfl)) (bF (Z2 2 40 11 49 rfl (Pt (aI c0) rfl)) (bF (bR rfl) cK))))) ?_
    ·refine dY 6 44 2 40 rfl rfl fun _ a w G1 hG HT H fin=>?_;exact zG
    clear H;intro a w G kV H hv;have H:=H.aM (hv 12 50 rfl rfl) rfl;clear hv;refine kH H (Ra rfl ?_);clear H;intro a H;refine aD ⟨rfl,?_⟩;refine K8 _ _ ?_;clear K8;refine Ck H rfl (aI c3) ?_;refine bD (fun _ K9=>?_)
    have e6:nM l k x=6:=by rw [nM,xV,dw,av q1',aG (by rw [(hpk (by omega)).2];exact aI c3)]
    refine kP H (SC (aX K9 rfl ?_));clear H K9;exact yE
   skip;refine dI hmx [[],[0],[0,1],[0,1,2],ra 0 4,[0,1,2],[0,1,2],[0,1,2,6],[0,1,2,5,6,7],[0,1,2,5,6,7,8],[0,1,2,5,6,7,8,9],ra 0 11,ra 0 12,ra 0 13] [13] (by kernel_rfl) [_,_,_,_,vi x.id,_,_,vi ((k - 1:Nat):Int),_,_,_,_,_] H (ay (Z0 rfl (Rm rfl)) (Z1 0 38 rfl (Rc rfl)) (Z1 1 39 rfl (Rm rfl)) (Z1 2 40 rfl (YF xM (aI c0) rfl)) (ay (Z2 3 41 2 40 rfl (YO aC 0 (aI c0) rfl)) (Z1 2 40 rfl (YM (aI c0) rfl)) (Z1 2 40 rfl (YM (aI c0) rfl)) ?_ (ay (Z3 5 43 7 45 2 40 rfl (YI mX kZ (aI c0) rfl rfl)) (Z2 8 46 2 40 rfl (YF xM (aI c0) rfl)) (X2 9 47 2 40 rfl fun hG=>YR aC (aI c0) rfl (aF hG (aF JZ (hpk (by omega)).1))) (Z3 4 42 10 48 2 40 rfl (YC (aI c0) rfl)) (bF (Z2 2 40 11 49 rfl (Pt (aI c0) rfl)) (bF (bR rfl) cK))))) ?_
   ·refine dY 6 44 2 40 rfl rfl fun _ a w G1 hG HT H fin=>?_;exact zG
   clear H;intro a w G kV H hv;have H:=H.aM (hv 12 50 rfl rfl) rfl;clear hv;refine kH H (Ra rfl ?_);clear H;intro a H;refine aD ⟨rfl,?_⟩;refine K8 _ _ ?_;clear K8;refine pO H rfl (aT c3) ?_;refine bD (fun _ aW=>?_)
   have q2:¬ (0 < (k:Int)∧x.id < pk):=by first|exact fun h=>c3 h.2|exact fun h=>c0 h.1
   have q2':¬ Fp (zX l k) x.id=true:=fun h=>q2 (by
    by_cases h0:0 < k
    ·exact Pb
    rw [RI (by omega)] at h
    cases h)
   refine kP H (SC (bq zL aC 0 rfl rfl (Rc rfl (Rm rfl (Sp 55 rfl ?_ ?_))))) <;> clear H
   ·intro nW a H
    try have p55:=dT nW
    refine kH H (YF zL nW rfl (YO aC 0 nW rfl (YC nW rfl (Pt nW rfl (aX aW rfl (Cd rfl ?_ ?_)))))) <;> clear H aW
    ·intro lT a H
     try have p51:=dT lT
     refine bD (fun _ bM=>?_)
     have e3:nM l k x=3:=by rw [nM,xV,dw,av q1',av q2',mQ]
     refine kP H (SC (aX bM rfl ?_));clear H bM;exact yE
    intro lT a H
    try have p51:=dF lT
    refine kP H (SR fun _ bU=>bq JU jg 0 rfl rfl ?_);clear H;intro a H;refine s_call PY H wn rfl (QY _ _ H.ro x.name hs) rfl ?_;clear H;rintro v63 I9 a w rfl hm63 H;refine kH H (Rn rfl (aj bU rfl (Cd rfl ?_ ?_))) <;> clear H bU
    ·intro kG a H
     try have p60:=dT kG
     refine bD (fun _ bY=>?_)
     have e13:nM l k x=13:=by rw [nM,xV,dw,av q1',av q2',dw,aG (by simpa using kG)]
     refine kP H (SC (aX bY rfl ?_));clear H bY;exact yE
    exact ada
   intro nW a H
   try have p55:=dF nW
   refine kH H (bB nW rfl (Pf nW rfl (aX aW rfl (Cf rfl rfl (SR fun _ cZ=>bq JU jg 0 rfl rfl ?_)))));clear H aW;intro a H;refine s_call PY H wn rfl (QY _ _ H.ro x.name hs) rfl ?_;clear H;rintro v63 I9 a w rfl hm63 H;refine kH H (Rn rfl (aj cZ rfl (Cd rfl ?_ ?_))) <;> clear H cZ
   ·intro kG a H
    try have p60:=dT kG
    refine bD (fun _ dQ=>?_)
    have e13:nM l k x=13:=by rw [nM,xV,dw,av q1',av q2',dw,aG (by simpa using kG)]
    refine kP H (SC (aX dQ rfl ?_));clear H dQ;exact yE
   intro kG a H
   try have p60:=dF kG
   refine iB ?_;refine ⟨I9,by exact H.sub ⟨rfl,rfl,rfl,aB⟩,?_⟩;exact Ug
  skip;refine dI hmx [[],[0],[0,1],[0,1,2],ra 0 4,[0,1,2],[0,1,2],[0,1,2,6],[0,1,2,5,6,7],[0,1,2,5,6,7,8],[0,1,2,5,6,7,8,9],ra 0 11,ra 0 12,ra 0 13] [13] (by kernel_rfl) [_,_,_,undef,undef,undef,undef,undef,undef,undef,undef,undef,_] H (ay (Z0 rfl (Rm rfl)) (Z1 0 24 rfl (Rc rfl)) (Z1 1 25 rfl (Rm rfl)) (aU 2 (aT c0) rfl rfl) (ay (aU 2 (aT c0) rfl rfl) (aU 2 (aT c0) rfl rfl) (aU 2 (aT c0) rfl rfl) (aU 2 (aT c0) rfl rfl) (ay (aU 2 (aT c0) rfl rfl) (aU 2 (aT c0) rfl rfl) (aU 2 (aT c0) rfl rfl) (aU 2 (aT c0) rfl rfl) (bF (Z2 2 26 11 35 rfl (Pf (aT c0) rfl)) (bF (bR rfl) cK))))) ?_
  clear H;intro a w G JZ H hv;have H:=H.aM (hv 12 36 rfl rfl) rfl;clear hv;refine kH H (Ra rfl ?_);clear H;intro a H;refine aD ⟨rfl,?_⟩;refine K6 _ _ ?_;clear K6;refine pO H rfl rfl ?_;refine bD (fun _ dR=>?_)
  have q1:¬ (0 < (k:Int)∧x.id=pk):=by first|exact fun h=>c1 h.2|exact fun h=>c0 h.1
  have q1':¬ zX l k=some x.id:=fun h=>q1 (by
   by_cases h0:0 < k
   ·exact Pv
   rw [RI (by omega)] at h
   cases h)
  refine dI hmx [[],[0],[0,1],[0,1,2],ra 0 4,[0,1,2],[0,1,2],[0,1,2,6],[0,1,2,5,6,7],[0,1,2,5,6,7,8],[0,1,2,5,6,7,8,9],ra 0 11,ra 0 12,ra 0 13] [13] (by kernel_rfl) [_,_,_,undef,undef,undef,undef,undef,undef,undef,undef,undef,_] H (ay (Z0 rfl (Rm rfl)) (Z1 0 38 rfl (Rc rfl)) (Z1 1 39 rfl (Rm rfl)) (aU 2 (aT c0) rfl rfl) (ay (aU 2 (aT c0) rfl rfl) (aU 2 (aT c0) rfl rfl) (aU 2 (aT c0) rfl rfl) (aU 2 (aT c0) rfl rfl) (ay (aU 2 (aT c0) rfl rfl) (aU 2 (aT c0) rfl rfl) (aU 2 (aT c0) rfl rfl) (aU 2 (aT c0) rfl rfl) (bF (Z2 2 40 11 49 rfl (Pf (aT c0) rfl)) (bF (bR rfl) cK))))) ?_
  clear H;intro a w G kV H hv;have H:=H.aM (hv 12 50 rfl rfl) rfl;clear hv;refine kH H (Ra rfl ?_);clear H;intro a H;refine aD ⟨rfl,?_⟩;refine dR _ _ ?_;clear dR;refine pO H rfl rfl ?_;refine bD (fun _ dK=>?_)
  have q2:¬ (0 < (k:Int)∧x.id < pk):=by first|exact fun h=>c3 h.2|exact fun h=>c0 h.1
  have q2':¬ Fp (zX l k) x.id=true:=fun h=>q2 (by
   by_cases h0:0 < k
   ·exact Pb
   rw [RI (by omega)] at h
   cases h)
  refine kP H (SC (bq zL aC 0 rfl rfl (Rc rfl (Rm rfl (Sp 55 rfl ?_ ?_))))) <;> clear H
  ·intro nW a H
   try have p55:=dT nW
   refine kH H (YF zL nW rfl (YO aC 0 nW rfl (YC nW rfl (Pt nW rfl (aX dK rfl (Cd rfl ?_ ?_)))))) <;> clear H dK
   ·intro lT a H
    try have p51:=dT lT
    refine bD (fun _ dX=>?_)
    have e3:nM l k x=3:=by rw [nM,xV,dw,av q1',av q2',mQ]
    refine kP H (SC (aX dX rfl ?_));clear H dX;exact yE
   intro lT a H
   try have p51:=dF lT
   refine kP H (SR fun _ fM=>bq JU jg 0 rfl rfl ?_);clear H;intro a H;refine s_call PY H wn rfl (QY _ _ H.ro x.name hs) rfl ?_;clear H;rintro v63 I9 a w rfl hm63 H;refine kH H (Rn rfl (aj fM rfl (Cd rfl ?_ ?_))) <;> clear H fM
   ·intro kG a H
    try have p60:=dT kG
    refine bD (fun _ eP=>?_)
    have e13:nM l k x=13:=by rw [nM,xV,dw,av q1',av q2',dw,aG (by simpa using kG)]
    refine kP H (SC (aX eP rfl ?_));clear H eP;exact yE
   exact ada
  intro nW a H
  try have p55:=dF nW
  refine kH H (bB nW rfl (Pf nW rfl (aX dK rfl (Cf rfl rfl (SR fun _ gB=>bq JU jg 0 rfl rfl ?_)))));clear H dK;intro a H;refine s_call PY H wn rfl (QY _ _ H.ro x.name hs) rfl ?_;clear H;rintro v63 I9 a w rfl hm63 H;refine kH H (Rn rfl (aj gB rfl (Cd rfl ?_ ?_))) <;> clear H gB
  ·intro kG a H
   try have p60:=dT kG
   refine bD (fun _ iH=>?_)
   have e13:nM l k x=13:=by rw [nM,xV,dw,av q1',av q2',dw,aG (by simpa using kG)]
   refine kP H (SC (aX iH rfl ?_));clear H iH;exact yE
  intro kG a H
  try have p60:=dF kG
  refine iB ?_;refine ⟨I9,by exact H.sub ⟨rfl,rfl,rfl,aB⟩,?_⟩;exact Ug
 clear H;intro g a w hI H;obtain ⟨q0,q1',q2',q3,q4,hgm⟩:=hI;dsimp only [lca,bJ] at H;refine bD (fun _ jP=>?_);refine bD (fun _ jH=>?_);have ahm:=(hv.mono hgm).pre k (by rw [bQ];omega);rw [<- List.map_take] at ahm;have auo:=hp.mono hgm;refine dI hmx [[],[],[0,1],[],[3],[],[5],ra 0 7,ra 0 8,ra 0 9,ra 0 9,ra 0 10,ra 0 12] [12] (by kernel_rfl) [_,_,.slice (some ⟨b,o,none⟩) k c,_,vi x.kind,_,.string x.name,.tuple #[vi (max (nY (EO (l.take k) x.kind x.name)) 0),.bool (EO (l.take k) x.kind x.name).isSome],_,vi (max (nY (EO (l.take k) x.kind x.name)) 0),.bool (EO (l.take k) x.kind x.name).isSome,_] H (ay (Z0 rfl (Rm rfl)) (Z0 rfl (Rm rfl)) ?_ (Z0 rfl (Rf zL rfl)) (ay (Z1 3 69 rfl (Ro aC 0 rfl)) (Z0 rfl (Rf JU rfl)) (Z1 5 71 rfl (Ro jg 0 rfl)) ?_ (ay (Z1 7 73 rfl (Rm rfl)) ?_ ?_ (Z1 9 74 rfl (Ra rfl)) (bF (bR rfl) cK)))) ?_
 ·refine dY 0 66 1 67 rfl rfl fun _ a w G1 hG HT H fin=>?_;refine IL mX kZ k H wn rfl rfl rfl (by omega) rfl ?_;exact jk
 ·refine vZ 2 68 4 70 6 72 rfl rfl fun _ a w G1 hG HT H fin=>?_;refine s_call apE H wn rfl (arz _ _ H.ro (l.take k) x.kind x.name _ (ahm.mono hG)) rfl ?_;clear H;rintro v73 G73 a w rfl asC H;exact fin H asC (rfl)
 ·exact abX
 ·exact abX
 clear H;intro a w G oH H hv;have H:=H.aM (hv 10 75 rfl rfl) rfl;clear hv;refine kH H (Ra rfl ?_);clear H;intro a H;refine aD ⟨rfl,?_⟩;refine jH _ _ ?_;clear jH;refine kP H (SR fun _ jr=>Rm rfl (Kz jr (Cd rfl ?_ ?_))) <;> clear H jr
 ·intro DL a H
  try have Yq:=dT DL
  refine bD (fun _ kN=>?_)
  have e7:nM l k x=7:=by rw [nM,xV,dw,av q1',av q2',av q3,av q4,aG DL]
  refine kP H (SC (aX kN rfl ?_));clear H kN;exact yE
 intro DL a H
 try have Yq:=dF DL
 refine kP H (Kc jP (SQ fun _ kQ=>SQ fun _ jh=>?_));clear H jP;intro a H
 have q5:¬ (EO (l.take k) x.kind x.name).isSome=true:=by simpa using DL
 have Bd:=auo.mono oH;refine kP H (SC (bq Qb vk 0 rfl rfl (Rl gT rfl (Rm rfl (Kn jh (SB ?_))))));clear H jh;intro a H;skip;refine eX (ι:=Nat) (Tc:=[(5,_),(78,_),(79,_)]) (Lc:=[(_,_)]) (fun gh=>[(80,vi gh)]) (fun gh=>[]) (fun gh=>G) (fun gh=>gh<=x.props.length∧(x.props.take gh).any (fun p=>LZ p.key)=false) (fun gh=>x.props.length - gh) (0) (by exact H.sub ⟨rfl,rfl,rfl,rfl,aB⟩) ?_ ?_
 ·exact Ju
 clear H;intro n a w hI H;obtain ⟨hn,hno⟩:=hI;dsimp only [lca,bJ] at H;refine kP H (SR fun _ mD=>Rc rfl (Kz mD (SQ fun _ nE=>Cd rfl ?_ ?_))) <;> clear H mD
 ·intro Wt a H
  try have p81:=dT Wt
  have hn2:n < x.props.length:=by omega
  obtain ⟨pb,po,rfl,hrow2⟩:=IG Bd hn2;have hrow:=hrow2;refine kP H (Kc nE (SQ fun _ mE=>SB (SR fun _ oC=>Ri gT iq rfl rfl ?_)));clear H nE;intro a H;refine bP iq (cs:=[_,_]) H wn rfl rfl (fun j v hj=>H.hp.aH (hrow j v hj)) rfl ?_;clear H;intro a H;refine dO iq H wn rfl ?_;clear H;intro b9 a w Cu H;refine bC iq 0 (vs:=[_,_]) H wn rfl ?_;clear H;intro w H;refine oC _ _ ?_;clear oC;refine kP H (SR fun _ nQ=>bq xL aC 0 rfl rfl (Rc rfl (Rm rfl (Sp 87 rfl ?_ ?_)))) <;> clear H
  ·intro h87 a H
   try have Yt:=dT h87
   refine kH H (bB h87 rfl (Pt h87 rfl (Kz nQ (Ct rfl rfl (SQ fun _ oO=>?_)))));clear H nQ;intro a H
   have e4:nM l k x=4:=by
    exact abq
   refine kP H (SC (aX oO rfl ?_));clear H oO;exact yE
  intro h87 a H
  try have Yt:=dF h87
  refine kH H (YF xL h87 rfl (YO aC 0 h87 rfl (YC h87 rfl (Pf h87 rfl (Kz nQ (Cd rfl ?_ ?_)))))) <;> clear H nQ
  ·intro Ww a H
   try have p91:=dT Ww
   refine bD (fun _ sI=>?_)
   have e4:nM l k x=4:=by
    exact abq
   refine kP H (SC (aX sI rfl ?_));clear H sI;exact yE
  intro Ww a H
  try have p91:=dF Ww
  refine kP H (Kc mE (SC (Rd rfl (Rm rfl ?_))));clear H mE;intro a H;refine aD ?_;refine dG ((n+1)) (by exact (H.eD (Pl:=[_,_]) (dN:=[_]) [1] (by decide) rfl).sub ⟨rfl,rfl,rfl,rfl,aB⟩) ?_
  exact ⟨by omega,by rw [kg hn2,List.any_append,hno];simp [LZ];omega⟩
 intro Wt a H
 try have p81:=dF Wt
 refine dP ?_;refine kQ _ _ ?_;clear kQ;refine bD (fun _ rQ=>?_)
 have q6:¬ x.props.any (fun p=>LZ p.key)=true:=by
  rw [show x.props.take n=x.props from nU (by omega)] at hno;rw [hno];decide
 have e0:nM l k x=ru (if x.kind=1 then 2 else 1) x.props:=by rw [nM,xV,dw,av q1',av q2',av q3,av q4,av q5,av q6]
 refine dI hmx [[],[0],[0,1],[],[3],ra 0 5,ra 0 6] [5,6] (by kernel_rfl) [_,vi x.kind,vi (if x.kind=1 then 2 else 1),_,.slice pA x.props.length pc] H (ay (Z0 rfl (Rf zL rfl)) (Z1 0 93 rfl (Ro aC 0 rfl)) ?_ (Z0 rfl (Rf Qb rfl)) (bF (Z1 3 96 rfl (Ro vk 0 rfl)) (bF (bR rfl) (bF (bR rfl) cK)))) ?_
 ·refine gZ 1 94 rfl rfl fun _ a w G1 hG HT H fin=>?_;refine s_call apF H wn rfl (aok _ _ H.ro x.kind) rfl ?_;clear H;rintro v95 G95 a w rfl asH H;exact fin H asH (rfl)
 clear H;intro a w G EW H hv;have H:=H.aM (hv 2 95 rfl rfl) rfl;have H:=H.aM (hv 4 97 rfl rfl) rfl;clear hv;refine s_call aex H wn rfl (aiL _ _ H.ro _ x.props _ (Bd.mono EW)) rfl ?_;clear H;rintro v98 G98 a w rfl aCt H;refine kH H (Ra rfl ?_);clear H;intro a H;refine aD ⟨rfl,?_⟩;refine rQ _ _ ?_;clear rQ;refine lr H results180 rfl ?_
 exact aaP
theorem FJ:Ty prog 33 1 24 [.slice none 0 0] false:=⟨by kernel_rfl,by kernel_rfl⟩
theorem Ae:prog.underlying 33=some (.slice 107):=by kernel_rfl
theorem Bw:Ty prog 107 6 64 [.int .i64 0,.int .i64 0,.string ⟨#[]⟩,.int .i64 0,.string ⟨#[]⟩,.bool false] true:=⟨by kernel_rfl,by kernel_rfl⟩
theorem afh:dH prog 107 0 0:=⟨by kernel_rfl⟩
theorem afi:dH prog 107 1 1:=⟨by kernel_rfl⟩
theorem apI:aQ 224:=aR func224 rfl
theorem apt:aQ 187:=aR func187 rfl
theorem aqZ:dH prog 107 2 2:=⟨by kernel_rfl⟩
theorem aew:aQ 127:=aR func127 rfl
theorem ara:dH prog 107 3 3:=⟨by kernel_rfl⟩
theorem arb:dH prog 107 4 4:=⟨by kernel_rfl⟩
theorem aeD:aQ 190:=aR func190 rfl
theorem apv:aQ 189:=aR func189 rfl
theorem apu:aQ 188:=aR func188 rfl
theorem aps:aQ 186:=aR func186 rfl
theorem Io {G:GH} {b:Nat} (l:List Int) (h:G b=some (.cells (l.map vi).toArray 49 (0,0))) (hl:l.length<=maxLen):au G (.sl 1 (l.map fun k=>[li k])) (.slice (some ⟨b,0,none⟩) l.length l.length) :=
 au.vV h (by simp) (eu _) hl (nU (by simp)) (Fh G l)
theorem Ve {G:GH} {l:List jo} {A:Option Addr} {n c k:Nat} (hv:au G (.sl 6 (l.map jo.dat)) (.slice A n c)) (hk:k < l.length):∃ b o,A=some ⟨b,o,none⟩∧(∀ j u,l[k].cells[j]?=some u->aH G b (o+k*6+j)=some u)∧aY G l[k].dat l[k].cells:=by
 obtain ⟨A',c',he,_,_,hg⟩:=hv.slice
 injection he with e1 e2 e3
 subst e1;obtain ⟨b,o,cs,h1,h2,h3,h4⟩:=hg k l[k].dat (by simp [hk]);have:=adI h4;subst this;exact ⟨b,o,h1,h3,h4⟩
theorem anI {G:GH} {bl:Nat} {l:List jo} {A:Option Addr} {n c:Nat} (hb:aH G bl 0=some (.slice A n c)) (hv:au G (.sl 6 (l.map jo.dat)) (.slice A n c)):vB (.func (.func 189) #[] #[(aJ bl 0)]) G l.length fun k=>(l[k]?.map jo.id).getD 0:=by
 intro k hk G1 w0 hm hG;refine jJ (caps:=[(aJ bl 0)]) apv ?_;replace hb:=aF hm hb
 obtain rfl:n=l.length:=by have:=hv.len;simpa using this
 obtain ⟨b,o,rfl,hrow,-⟩:=Ve (hv.mono hm) hk;have hq:=hrow 0 _ rfl;refine eN [(0,_),(1,_)] func189 rfl ntmps189 rfl rfl hG ?_;intro a H;refine kP H (SR fun _ K1=>aj K1 rfl (SR fun _ K2=>Rg FJ rfl (by assumption) ?_));clear H K1;intro a H;refine kH H (Rm rfl (Ri Ae Bw rfl rfl (Rf afh rfl (Rg aC rfl (by assumption) ?_))));clear H;intro a H;exact kH H (aj K2 rfl (LR results189 rfl fun H=>H.rt (by dsimp only;rw [dV hk];rfl)))
theorem anJ {G:GH} {bc:Nat} {x:jo} (hb:aH G bc 1=some (vi x.parent)) (y:jo):uG (.func (.func 188) #[] #[(aJ bc 0)]) G y.dat (decide (y.id=x.parent)):=by
 intro G1 w0 cs hm hG hr;refine jJ (caps:=[(aJ bc 0)]) apu ?_;obtain rfl:=adI hr;replace hb:=aF hm hb;refine eN [(0,_),(1,_)] func188 rfl ntmps188 rfl rfl hG ?_;intro a H;refine cO (fun _ K1=>?_);refine dW (cs:=[_,_,_,_,_,_]) H wn rfl rfl rfl ?_;clear H;intro b2 a w hb2 H;refine kH H (aj K1 rfl (SR fun _ K2=>bq afh aC 0 rfl rfl (Rf afi rfl (Rg aC rfl (by assumption) ?_))));clear H K1;intro a H;exact kH H (Rc rfl (aj K2 rfl (LR results188 rfl fun H=>H.rt rfl)))
theorem avv (G:GH) (w0:World) (hG:Hold G w0) (l:List jo) (p:jo->Bool) (v fv:ah) (hv:au G (.sl 6 (l.map jo.dat)) v) (hf:∀ x∈l,uG fv G x.dat (p x)) :
  Calls prog 224 #[v,fv] w0 (bK w0 G fun u G'=>u=vi (nY (l.findIdx? p))):=by
 obtain ⟨A,c,rfl,hc1,hc2,hg⟩:=hv.slice;have hml:maxLen=9223372036854775807:=rfl;rw [bQ] at *;refine eN [(0,_),(1,_)] func224 rfl ntmps224 rfl rfl hG ?_;intro a H;refine kP H (SR fun _ K1=>aj K1 rfl (SQ fun _ K2=>SR fun _ K3=>Rm rfl (Rl Ae rfl (Rm rfl (Kz K3 (SB ?_))))));clear H K1 K3;intro a H;skip;refine eX (ι:=Nat × GH) (Tc:=[(0,_),(1,_),(7,_)]) (Lc:=[]) (fun gh=>[(8,vi gh.1)]) (fun gh=>[]) (fun gh=>gh.2) (fun gh=>gh.1<=l.length∧(l.take gh.1).findIdx? p=none∧(∀ b o,G b=some o->gh.2 b=some o)) (fun gh=>l.length - gh.1) ((0,G)) (by exact H.sub ⟨rfl,rfl,rfl,rfl,aB⟩) ?_ ?_
 ·exact Aq
 clear H;rintro ⟨k,g⟩ a w hI H;dsimp only at hI H;obtain ⟨hk,hno,hgm⟩:=hI;dsimp only [lca,bJ] at H;refine kP H (SR fun _ K4=>Rc rfl (Kz K4 (SQ fun _ K5=>Cd rfl ?_ ?_))) <;> clear H K4
 ·intro h9 a H
  try have p9:=dT h9
  have hk2:k < l.length:=by omega
  obtain ⟨b,o,rfl,hrow,hrep⟩:=Ve hv hk2;refine kP H (Kc K5 (SQ fun _ K6=>SB (SR fun _ K7=>Rm rfl (aj K7 rfl (SR fun _ K8=>Rm rfl (Rm rfl (Rm rfl (Ri Ae Bw rfl rfl ?_))))))));clear H K5 K7;intro a H;refine bP Bw (cs:=l[k].cells) H wn rfl rfl (fun j v hj=>H.hp.aH (aF hgm (hrow j v hj))) rfl ?_;clear H;intro a H;refine kX H wn rfl rfl (hf _ (jB hk2) _ _ _ hgm H.ro (hrep.mono hgm)) rfl ?_;clear H;rintro v16 uD a w rfl uh H;refine K8 _ _ ?_;clear K8;refine jS H rfl ?_ ?_
  ·intro h16
   try have p16:=dT h16
   refine kP H (SR fun _ K9=>Rm rfl (aj K9 rfl ?_));clear H K9;intro a H;refine lr H results224 rfl ?_
   exact xE
  exact JG
 intro h9 a H
 try have p9:=dF h9
 refine dP ?_;refine K2 _ _ ?_;clear K2;refine kP H (SR fun _ aW=>aj aW rfl ?_);clear H aW;intro a H;refine lr H results224 rfl ?_
 exact xE
theorem anL (G:GH) (w0:World) (hG:Hold G w0) (l:List jo) (p:jo->Bool) (v fv:ah) (hv:au G (.sl 6 (l.map jo.dat)) v) (hf:∀ x∈l,uG fv G x.dat (p x)) :
  Calls prog 187 #[v,fv] w0 (bK w0 G fun u G'=>u=.bool (l.findIdx? p).isSome):=by
 obtain ⟨A,c,rfl,hc1,hc2,-⟩:=hv.slice;rw [bQ] at *;refine eN [(0,_),(1,_)] func187 rfl ntmps187 rfl rfl hG ?_;intro a H;refine kP H (SR fun _ K1=>aj K1 rfl (SR fun _ K2=>Rm rfl (Rm rfl ?_)));clear H K1;intro a H;refine s_call apI H wn rfl (avv _ _ H.ro l p _ _ hv hf) rfl ?_;clear H;rintro v7 G7 a w rfl vQ H;exact kH H (Rc rfl (aj K2 rfl (LR results187 rfl fun H=>H.rt (iK (XP _)))))
def Jt (l:List jo) (i:Nat) (x:jo):Bool:=decide (x.parent=0) || ((l.take i).findIdx? fun y=>decide (y.id=x.parent)).isSome
def Vd (l:List jo) (i:Nat) (x:jo):Int:=dL [wO (fun k=>(l[k]?.map jo.id).getD 0) i,dz (!Jt l i x) 8,dz (!xC x.author) 39,dz (!decide (0<=x.time∧x.time<=1099511627776)) 40,Eo x.text]
def JM (l:List jo) (i:Nat):Int:=match l[i]? with|some x=>Vd l i x|none=>0
theorem anH {G:GH} {bl:Nat} {l:List jo} {A:Option Addr} {n c:Nat} (hb:aH G bl 0=some (.slice A n c)) (hv:au G (.sl 6 (l.map jo.dat)) (.slice A n c)) (hl:l.length<=4294967296) (ht:∀ x∈l,x.author.size < 4611686018427387904∧x.text.size < 4611686018427387904):vB (.func (.func 186) #[] #[(aJ bl 0)]) G l.length (JM l):=by
 intro k hk G1 w0 hm hG;refine jJ (caps:=[(aJ bl 0)]) aps ?_;replace hb:=aF hm hb;replace hv:=hv.mono hm;have hcb:=anI hb hv;obtain ⟨_,_,hee,hvc,-,-⟩:=hv.slice
 injection hee with _ _ hcc
 subst hcc;rw [bQ] at hvc
 obtain rfl:n=l.length:=by have:=hv.len;simpa using this
 obtain ⟨b,o,rfl,hrow,hrep⟩:=Ve hv hk;have hte:=ht _ (jB hk);obtain ⟨x,hx⟩:∃ x,x=l[k]:=⟨_,rfl⟩;rw [<- hx] at hrow hte
 have he:JM l k=Vd l k x:=by unfold JM;rw [dV hk,hx]
 refine eN [(0,_),(1,_)] func186 rfl ntmps186 rfl rfl hG ?_;intro a H;refine kP H (SR fun _ K1=>aj K1 rfl (SR fun _ K2=>Rg FJ rfl (by assumption) ?_));clear H K1;intro a H;refine kH H (Rm rfl (Ri Ae Bw rfl rfl ?_));clear H;intro a H;refine bP Bw (cs:=x.cells) H wn rfl rfl (fun j v hj=>H.hp.aH (hrow j v hj)) rfl ?_;clear H;intro a H;refine dO Bw H wn rfl ?_;clear H;intro b4 a w hb4 H;refine bC Bw 0 (vs:=[_,_,_,_,_,_]) H wn rfl ?_;clear H;intro w H;obtain ⟨Ga,hma,AY,H⟩:=H.fB
 have hcell:∀ (j:Nat) (u:ah),x.cells[j]?=some u->aH Ga b4 j=some u:=fun j u hj=>by unfold aH;rw [AY];simpa using hj
 have q1:=hcell 1 _ rfl;have hbA:=aF hma hb;have QS:=(hv.mono hma).pre k (by rw [bQ];omega);rw [<- List.map_take] at QS;refine K2 _ _ ?_;clear K2;refine tT (ι:=Bool × GH) (Tc:=[(0,_),(1,_),(4,_)]) (Lc:=[]) (fun gh=>[(5,.bool gh.1)]) (fun gh=>[]) (fun gh=>gh.2) (fun gh=>gh.1=Jt l k x∧(∀ b o,Ga b=some o->gh.2 b=some o)) (by exact H.sub ⟨rfl,rfl,rfl,aB⟩) ?_ ?_
 ·skip;refine kP H (SC (Rf afi rfl (Rg aC rfl (by assumption) ?_)));clear H;intro a H;refine kH H (Rc rfl (Rm rfl (Sp 13 rfl ?_ ?_))) <;> clear H
  ·intro gQ a H
   try have sw:=dT gQ
   refine kH H (bB gQ rfl (aP gQ rfl (Pt gQ rfl (Ra rfl ?_))));clear H;intro a H;refine aD ?_;refine ⟨(_,_),by exact H.sub ⟨rfl,rfl,rfl,rfl,aB⟩,?_⟩;(try dsimp only)
   first
   | exact ⟨by unfold Jt;rw [nT (by assumption)];rfl,fun _ _ h=>h⟩
   | exact ⟨by unfold Jt;rw [qN (by assumption)];rfl,hm18⟩
  intro gQ a H
  try have sw:=dF gQ
  refine kH H (YR FJ gQ rfl (by assumption) ?_);clear H;intro a H;refine kH H (YM gQ rfl ?_);clear H;intro a H;refine IL Ae Bw k H (wg H rfl rfl gQ) rfl rfl rfl (by omega) rfl ?_;clear H;intro a H;refine rM H (wg H rfl rfl gQ) rfl rfl ?_;clear H;intro a H;refine s_call apt H (wg H rfl rfl gQ) rfl (anL _ _ H.ro (l.take k) (fun y=>decide (y.id=x.parent)) _ _ QS (fun y _=>anJ q1 y)) rfl ?_;clear H;rintro v18 ZO a w rfl hm18 H;refine kH H (Pf gQ rfl (Ra rfl ?_));clear H;intro a H;refine aD ?_;refine ⟨(_,_),by exact H.sub ⟨rfl,rfl,rfl,rfl,aB⟩,?_⟩;(try dsimp only)
  first
  | exact ⟨by unfold Jt;rw [nT (by assumption)];rfl,fun _ _ h=>h⟩
  | exact ⟨by unfold Jt;rw [qN (by assumption)];rfl,hm18⟩
 clear H;rintro ⟨bf,g⟩ a w hI H;dsimp only at hI H;obtain ⟨hbf,hgm⟩:=hI;replace hcell:=fun j u hj=>aF hgm (hcell j u hj);replace hcb:=(hcb.mono hma).mono hgm;dsimp only [lca,bJ] at H;refine bD (fun _ K3=>?_);have H:=H.sub (T':=[(0,_),(1,_),(4,_),(5,_)]) ⟨rfl,rfl,rfl,rfl,aB⟩;refine dI hmx [[],[],[0,1],[],[3],ra 0 5,[],[6],ra 0 8,ra 0 9,ra 0 10,[],[11],ra 0 13,ra 0 14,ra 0 15,[],[16],ra 0 18,ra 0 19,ra 0 20,ra 0 21] [19,20,21] (by kernel_rfl) [_,.func (.func 189) #[] #[(aJ bl 0)],vi (wO (fun k=>(l[k]?.map jo.id).getD 0) k),_,_,vi (dz (!bf) 8),_,_,.bool (xC x.author),_,vi (dz (!xC x.author) 39),_,_,.bool (decide (0<=x.time∧x.time<=1099511627776)),_,vi (dz (!decide (0<=x.time∧x.time<=1099511627776)) 40),_,_,vi (Eo x.text)] H (ay (Z0 rfl (Rm rfl)) ?_ ?_ (Z0 rfl (Rm rfl)) (ay (Z1 3 23 rfl (Rn rfl)) ?_ (Z0 rfl (Rf aqZ rfl)) (X1 6 26 rfl fun hG=>Rg jg rfl (aF hG (hcell 2 _ rfl))) (ay ?_ (Z1 8 28 rfl (Rn rfl)) ?_ (Z0 rfl (Rf ara rfl)) (ay (X1 11 31 rfl fun hG=>Rg aC rfl (aF hG (hcell 3 _ rfl))) ?_ (Z1 13 33 rfl (Rn rfl)) ?_ (ay (Z0 rfl (Rf arb rfl)) (X1 16 36 rfl fun hG=>Rg jg rfl (aF hG (hcell 4 _ rfl))) ?_ (bR rfl) (bF (bR rfl) (bF (bR rfl) cK))))))) ?_
 ·exact Gx
 ·refine dY 0 20 1 21 rfl rfl fun _ a w G1 hG HT H fin=>?_;refine s_call aev H wn rfl (ahE _ _ H.ro k _ _ (by omega) (fun i hi=>(hcb.mono hG) i (by omega))) rfl ?_;clear H;rintro v22 ZP a w rfl zP H;exact fin H zP (rfl)
 ·refine gZ 4 24 rfl rfl fun _ a w G1 hG HT H fin=>?_;refine s_call mO H wn rfl (mY _ _ H.ro _ 8) rfl ?_;clear H;rintro v25 FV a w ⟨rfl,-⟩ arY H;exact fin H arY (rfl)
 ·refine gZ 7 27 rfl rfl fun _ a w G1 hG HT H fin=>?_;refine s_call aew H wn rfl (aat _ _ H.ro x.author hte.1) rfl ?_;clear H;rintro v28 LC a w ⟨rfl,-⟩ asa H;exact fin H asa (rfl)
 ·refine gZ 9 29 rfl rfl fun _ a w G1 hG HT H fin=>?_;refine s_call mO H wn rfl (mY _ _ H.ro _ 39) rfl ?_;clear H;rintro v30 FX a w ⟨rfl,-⟩ WA H;exact fin H WA (rfl)
 ·refine gZ 12 32 rfl rfl fun _ a w G1 hG HT H fin=>?_;refine s_call yI H wn rfl (yY _ _ H.ro x.time 0 1099511627776) rfl ?_;clear H;rintro v33 ZT a w ⟨rfl,-⟩ ase H;exact fin H ase (rfl)
 ·refine gZ 14 34 rfl rfl fun _ a w G1 hG HT H fin=>?_;refine s_call mO H wn rfl (mY _ _ H.ro _ 40) rfl ?_;clear H;rintro v35 ZU a w ⟨rfl,-⟩ WB H;exact fin H WB (rfl)
 ·refine gZ 17 37 rfl rfl fun _ a w G1 hG HT H fin=>?_;refine s_call aeD H wn rfl (ajR _ _ H.ro x.text hte.2) rfl ?_;clear H;rintro v38 Tq a w rfl ash H;exact fin H ash (rfl)
 clear H;intro a w G rV H hv;have H:=H.aM (hv 2 22 rfl rfl) rfl;have H:=H.aM (hv 5 25 rfl rfl) rfl;have H:=H.aM (hv 10 30 rfl rfl) rfl;have H:=H.aM (hv 15 35 rfl rfl) rfl;have H:=H.aM (hv 18 38 rfl rfl) rfl;clear hv;refine iT rP jv [_,_,_,_,_] [_,_,_,_,_] H wn rfl rfl rfl rfl rfl (by intro i q h;match i,h with|0,h=>exact h|1,h=>exact h|2,h=>exact h|3,h=>exact h|4,h=>exact h|n+5,h=>simp at h) rfl rfl ?_;clear H;intro b39 a w aBX H;obtain ⟨OC,Nc,asY,H⟩:=H.fB;refine s_call sO H wn rfl (sQ _ _ H.ro _ _ (Io [wO (fun k=>(l[k]?.map jo.id).getD 0) k,dz (!bf) 8,dz (!xC x.author) 39,dz (!decide (0<=x.time∧x.time<=1099511627776)) 40,Eo x.text] asY (show 5<=maxLen by decide))) rfl ?_;clear H;rintro v40 _ a w ⟨rfl,rfl⟩ - H;refine kH H (Ra rfl ?_);clear H;intro a H;refine aD ⟨rfl,?_⟩;refine K3 _ _ ?_;clear K3;refine lr H results186 rfl ?_;exact H.rt (by rw [he,Vd,<- hbf])
def Pz (l:List jo):Int:=dL [dz (decide (1024 < (l.length:Int))) 9,iU (JM l) (min l.length 1024)]
theorem amV (G:GH) (w0:World) (hG:Hold G w0) (l:List jo) (v:ah) (hv:au G (.sl 6 (l.map jo.dat)) v) (hl:l.length<=4294967296) (ht:∀ x∈l,x.author.size < 4611686018427387904∧x.text.size < 4611686018427387904) :
  Calls prog 121 #[v] w0 (bK w0 G fun u G'=>u=vi (Pz l)):=by
 obtain ⟨A,c,rfl,hc1,hc2,-⟩:=hv.slice;rw [bQ] at *;refine eN [(0,_)] func121 rfl ntmps121 rfl rfl hG ?_;intro a H;refine cO (fun _ K1=>?_);refine dW (cs:=[_]) H wn rfl rfl rfl ?_;clear H;intro b1 a w hb1 H;refine kH H (aj K1 rfl (SQ fun _ K2=>?_));clear H K1;intro a H;have H:=H.sub (T':=[(1,_)]) ⟨rfl,aB⟩;obtain ⟨Ga,hma,hb1',H⟩:=H.fB
 have hbl:aH Ga b1 0=some (.slice A l.length c):=by unfold aH;rw [hb1'];rfl
 have hcb:=anH hbl (hv.mono hma) hl ht;refine dI hmx [[],[0],[0,1],[0,1,2],[],[4],[4,5],[],ra 0 8,ra 0 9,ra 0 10,ra 0 11] [9,10,11] (by kernel_rfl) [_,_,_,vi (dz (decide (1024 < (l.length:Int))) 9),_,_,vi ((min l.length 1024:Nat):Int),.func (.func 186) #[] #[(aJ b1 0)],vi (iU (JM l) (min l.length 1024))] H (ay (X0 rfl fun hG=>Rg FJ rfl (aF hG hbl)) (Z1 0 3 rfl (Rl Ae rfl)) (Z1 1 4 rfl (Rc rfl)) ?_ (ay (X0 rfl fun hG=>Rg FJ rfl (aF hG hbl)) (Z1 4 7 rfl (Rl Ae rfl)) ?_ ?_ (ay ?_ (bR rfl) (bR rfl) (bR rfl) cK))) ?_
 ·exact Pj
 ·exact Pn
 ·exact Gx
 ·refine dY 6 9 7 10 rfl rfl fun _ a w G1 hG HT H fin=>?_;refine s_call JO H wn rfl (LY _ _ H.ro (min l.length 1024) (JM l) _ (by omega) ((hcb.mono hG).le (Nat.min_le_left _ _))) rfl ?_;exact Mk
 clear H;intro a w G nJ H hv;have H:=H.aM (hv 3 6 rfl rfl) rfl;have H:=H.aM (hv 8 11 rfl rfl) rfl;clear hv;refine iT rP jv [_,_] [_,_] H wn rfl rfl rfl rfl rfl (by intro i q h;match i,h with|0,h=>exact h|1,h=>exact h|n+2,h=>simp at h) rfl rfl ?_;clear H;intro b12 a w Hy H;obtain ⟨BM,Cw,Hz,H⟩:=H.fB;refine s_call sO H wn rfl (sQ _ _ H.ro _ _ (Ac Hz)) rfl ?_;clear H;rintro v13 _ a w ⟨rfl,rfl⟩ - H;refine kH H (Ra rfl ?_);clear H;intro a H;refine aD ⟨rfl,?_⟩;refine K2 _ _ ?_;clear K2;refine lr H results121 rfl ?_;exact wz
def yZ:Nat->List Int->List MapEntry
 | _,[]=>[]
 | i,k :: r=>⟨.int .i64 k,.int .i64 (i:Int),i⟩ :: yZ (i+1) r
theorem aia (x:Int):∀ (i:Nat) (l:List Int),yZ i (l++[x])=yZ i l++[⟨.int .i64 x,.int .i64 ((i+l.length:Nat):Int),i+l.length⟩]
 | _,[]=>rfl
 | i,k :: r=>by
  rw [oD,yZ,aia x (i+1) r,yZ,oD,kS,show i+1+r.length=i+(r.length+1) by omega]
def wN (x:Int):Nat->List Int->Option Nat
 | _,[]=>none
 | i,k :: r=>if k=x then some i else wN x (i+1) r
theorem ahw {x:Int}:∀ {l:List Int} {i n:Nat},wN x i l=some n->i<=n
 | [],_,_,h=>by cases h
 | k :: r,i,n,h=>by
  rw [wN] at h;split at h
  ·cases h;exact eu _
  ·have:=ahw h;omega
theorem ahy {x:Int}:∀ {l:List Int} {i:Nat},x∉l->wN x i l=none
 | [],_,_=>rfl
 | k :: r,i,h=>by
  rw [wN,av (fun e=>h (by simp [e])),ahy (fun hm=>h (gK _ hm))]
theorem VO (x:Int):∀ (i j:Nat) (l:List Int),Instr.findNow (.int .i64) (.int .i64 x) (yZ i l) j=some ((wN x i l).map fun n=>(j+(n - i),.int .i64 (n:Int)))
 | _,_,[]=>rfl
 | i,j,k :: r=>by
  have ih:=VO x (i+1) (j+1) r
  by_cases e:k=x
  ·subst e
   simp only [yZ,Instr.findNow,Instr.sameNow,aG,wN,beq_self_eq_true]
   simp
  ·have hb:(x == k)=false:=by simp;exact fun h=>e h.symm
   simp only [yZ,Instr.findNow,Instr.sameNow,aG,hb,wN,av e,ih]
   cases h:wN x (i+1) r with
   | none=>rfl
   | some n =>
    have:=ahw h
    simp only [wo,pE,iO,and_true]
    omega
abbrev alB (b:Nat) (l:List Int):Nat × Obj:=(b,.map (yZ 0 l).toArray l.length)
theorem awq (l:List Int) (x:Int):(yZ 0 l).toArray.push ⟨.int .i64 x,.int .i64 (l.length:Int),l.length⟩=(yZ 0 (l++[x])).toArray:=by
 rw [aia,List.push_toArray,gI]
section
section
variable {P:Program} {N:Nat} {D:List Deferred} {w0 w w':World} {F:Nat->Prop} {G0 G G':GH} {L L' Li Lo:OL} {T:List (Nat × ah)} {a a':Act} {Q:Exit->Act->World->Prop}
variable {r:Option Nat} {ops:Array Oper} {rest:List Oper}
def Tz (P:Program) (Gi:GH) (B:OL) (gv:ah) (xs:List AP):Prop :=
 ∀ (J:Nat->GH->OL->Prop) (Jx:GH->OL->Prop) (fv:ah) (G:GH) (L:OL) (w:World),fv.cells=#[fv]->(∀ b o,Gi b=some o->G b=some o)->Dh J->Gg Jx->J 0 G L->gH G (B++L) w->Et P fv G xs J Jx ->
  tL P gv [fv] w (fU w G (B++L) fun _ G' L'=>J xs.length G' L'∨Jx G' L')
theorem Tz.mono {Gi EA:GH} {B:OL} {gv:ah} {xs:List AP} (h:Tz P Gi B gv xs) (hm:∀ b o,Gi b=some o->EA b=some o):Tz P EA B gv xs :=
 fun J Jx fv G L w h0 h1=>h J Jx fv G L w h0 fun b o hb=>h1 b o (hm b o hb)
end
end
section
section
variable {P:Program} {N:Nat} {D:List Deferred} {w0 w w':World} {F:Nat->Prop} {G0 G G':GH} {L L' Li Lo:OL} {T:List (Nat × ah)} {a a':Act} {Q:Exit->Act->World->Prop}
variable {r:Option Nat} {ops:Array Oper} {rest:List Oper}
def Jc (P:Program) (Gi:GH) (B:OL) (gv:ah) (xs:List AP) (fin:Bool):Prop :=
 ∀ (J:Nat->GH->OL->Prop) (Jx:GH->OL->Prop) (fv:ah) (G:GH) (L:OL) (w:World),fv.cells=#[fv]->(∀ b o,Gi b=some o->G b=some o)->Dh J->Gg Jx->J 0 G L->gH G (B++L) w->Et P fv G xs J Jx->(fin=false->∀ g l,¬ J xs.length g l) ->
  tL P gv [fv] w (fU w G (B++L) fun _ G' L'=>J xs.length G' L'∨Jx G' L')
theorem Jc.mono {Gi EA:GH} {B:OL} {gv:ah} {xs:List AP} {fin:Bool} (h:Jc P Gi B gv xs fin) (hm:∀ b o,Gi b=some o->EA b=some o):Jc P EA B gv xs fin :=
 fun J Jx fv G L w h0 h1=>h J Jx fv G L w h0 fun b o hb=>h1 b o (hm b o hb)
theorem amw {fin:Bool} {B:OL} {AA:Operand} {ps:List Nat} {assign body:Code} {gf:FuncId} {caps:List ah} {xs:List AP} {Gi:GH}
  (H:St N D w0 F G0 G (B++L) T a w) (hg:ev T AA=some (.func (.func gf) #[] caps.toArray)) (en:∀ args w,(callFunc gf args).run P w=.ok (.enter gf args) w) (hit:Jc P Gi B (.func (.func gf) #[] caps.toArray) xs fin) (hGi:∀ b o,Gi b=some o->G b=some o)
  (hps:ps.all (Nat.blt · N)=true) (hlen:∀ k args g,wZ xs k args g->args.length=ps.length)
  (J:Nat->GH->OL->Prop) (Jx:Code->GH->OL->Prop) (hno:fin=false->∀ g l,¬ J xs.length g l) (qy:Dh J) (hJx:∀ c,Gg (Jx c)) (h0:J 0 G L) (Xu:TN P N ps assign body T G J Jx xs)
  (hdone:∀ Dk G1 L1 a1 w1,(∀ b o,G b=some o->G1 b=some o)->J xs.length G1 L1->St N ({ target:=.collected Dk,args:=#[] } :: D) w0 F G0 G1 ((Dk,.deferred (some [])) :: L1) T a1 w1->Q .normal a1 w1)
  (hstop:∀ Dk c G1 L1 a1 w1,(∀ b o,G b=some o->G1 b=some o)->Jx c G1 L1->St N ({ target:=.collected Dk,args:=#[] } :: D) w0 F G0 G1 ((Dk,.deferred (some [])) :: L1) T a1 w1->WP none P c Q a1 w1) :
  WP none P (.rangeFunc AA ps.toArray assign body) Q a w:=by
 refine wpIn_rangeFunc ?_
 intro fn _
 have hev:=H.ev hg
 let q:Rec:=⟨fn,a.tmps,ps.toArray,assign,body,w.heap.size⟩
 obtain ⟨W1,hW1⟩:∃ W1,W1=(w.alloc (.deferred (some []))).alloc (q.at .ready none):=⟨_,rfl⟩
 have H1:Hp w0 F G0 G (B++((w.heap.size+1,q.at .ready none) :: (w.heap.size,.deferred (some [])) :: L)) W1:=by
  have:=(H.hp.alloc (.deferred (some []))).alloc (q.at .ready none)
  rw [World.size_alloc] at this
  rw [hW1]
  refine this.perm ?_
  have e:=pK (l₁:=[(w.heap.size+1,q.at .ready none),(w.heap.size,Obj.deferred (some []))]) (l₂:=B)
  have e2:=List.Perm.append_right L e
  rw [iZ,iZ] at e2
  exact e2
 refine ⟨w.heap.size+1,[{ target:=.collected w.heap.size,args:=#[] }],W1,{ target:=.fn (.func gf) caps.toArray,args:=#[.func (.yield (w.heap.size+1)) #[] #[]] },W1,gf,
  #[.func (.yield (w.heap.size+1)) #[] #[]]++caps.toArray,W1,by rw [hW1];exact run_enterLoop_outer fn a.tmps ps.toArray assign body,?_,fun _ _=>trivial,?_,OB none,?_⟩
 ·simp only [resolve,rangeCall,hev]
  simp [Deferred.ofValue,Act.eval]
 ·simp [invoke,en]
 ·have hcv:=hit (fun k=>Jr (w.heap.size+1) q [(w.heap.size,.deferred (some []))] (J k)) (OH (w.heap.size+1) q [(w.heap.size,.deferred (some []))] Jx) (.func (.yield (w.heap.size+1)) #[] #[]) G
   ((w.heap.size+1,q.at .ready none) :: (w.heap.size,.deferred (some [])) :: L) W1 rfl hGi (fun k G G' L hm ⟨Lu,e,h⟩=>⟨Lu,e,qy k G G' Lu hm h⟩) (fun G G' L hm ⟨c,Lu,e,h⟩=>⟨c,Lu,e,hJx c G G' Lu hm h⟩) ⟨L,rfl,h0⟩ (Hp.owns (Li:=[]) H1) (adp H.oG H.get hps hlen Xu) (fun e g l ⟨Lu,_,h⟩=>hno e g Lu h)
  replace hcv:=hcv.go
  have e:(do let d <- Deferred.ofValue (.func (.func gf) #[] caps.toArray) [Value.func (.yield (w.heap.size+1)) #[] #[]].toArray;invoke d.target d.args:Sem Next).run P W1=.ok (.enter gf (#[.func (.yield (w.heap.size+1)) #[] #[]]++caps.toArray)) W1:=by
   simp [Deferred.ofValue,invoke,en]
  rw [e] at hcv
  refine (U6 hcv).mono ?_
  rintro e w2 ⟨v,G2,L2,rfl,hch,hJ⟩
  have H2:=Hp.change (Li:=[]) H1 hch
  rcases hJ with ⟨Lu,rfl,hJ⟩|⟨c,Lu,rfl,hJ⟩
  ·have hl:=H2.own _ (eT)
   have H3:=(H2.upd (i:=0) rfl (FL (q.at .exhausted none) hl)).drop (Dn _ _)
   exact ⟨none,_,run_endLoop hl (by simp),hdone _ G2 Lu _ _ hch.gm hJ ⟨H.oG,H.get,by simp [H.uO],H3⟩⟩
  ·have hl:=H2.own _ (eT)
   have H3:=(H2.upd (i:=0) rfl (FL (q.at .exhausted (some c)) hl)).drop (Dn _ _)
   exact ⟨some c,_,run_endLoop hl (by simp),hstop _ c G2 Lu _ _ hch.gm hJ ⟨H.oG,H.get,by simp [H.uO],H3⟩⟩
theorem amx {fin:Bool} {B:OL} {ι κ:Type} {Lc:OL} {AA:Operand} {ps:List Nat} {assign body:Code} {gf:FuncId} {caps:List ah} {xs:List AP} {Gi:GH}
  (Lv:Nat->ι->OL) (Lt:Nat->ι->OL) (inv:Nat->ι->GH->Prop) (cx:κ->Code) (Lx F7:κ->OL) (Bj:κ->GH->Prop) (i0:ι)
  (H:St N D w0 F G0 G (B++(Lc++Lv 0 i0++Lt 0 i0)) T a w) (hg:ev T AA=some (.func (.func gf) #[] caps.toArray)) (en:∀ args w,(callFunc gf args).run P w=.ok (.enter gf args) w) (hit:Jc P Gi B (.func (.func gf) #[] caps.toArray) xs fin) (hGi:∀ b o,Gi b=some o->G b=some o)
  (hno:fin=false->∀ i g,¬ inv xs.length i g) (hps:ps.all (Nat.blt · N)=true) (hlen:∀ k args g,wZ xs k args g->args.length=ps.length) (hinv:∀ k i (G G':GH),(∀ b o,G b=some o->G' b=some o)->inv k i G->inv k i G') (Xd:∀ x (G G':GH),(∀ b o,G b=some o->G' b=some o)->Bj x G->Bj x G') (h0:inv 0 i0 G)
  (round:∀ (l:Nat) (Eh Ar:Obj) (bk:OL) (k:Nat) (args:List ah) (i:ι) (G1:GH) (w1:World) (F1:Nat->Prop) (B1:Code->Exit->Act->World->Prop) (a1:Act),wZ xs k args G1->(∀ b o,G b=some o->G1 b=some o)->inv k i G1 ->
   (∀ T' G2 L2 a2 w2 c,St N [] w1 F1 G1 G2 ((l,Eh) :: L2) T' a2 w2->(∀ w3,St N [] w1 F1 G1 G2 ((l,Ar) :: L2) T' a2 w3->WP (some l) P c (B1 c) a2 w3)->Exit.then (fun a2 w2=>∃ w3,(Instr.beginRound l).run P w2=.ok () w3∧c.wpIn (FW (some l)) 0 P (B1 c) a2 w3) (fun _ _ _=>False) .normal a2 w2) ->
   (∀ i' T' G2 a2 w2 c,St N [] w1 F1 G1 G2 ((l,Ar) :: (Lc++Lv (k+1) i'++(bk++Lt (k+1) i'))) T' a2 w2->inv (k+1) i' G2->B1 c .normal a2 w2) ->
   (∀ x T' G2 a2 w2 c,St N [] w1 F1 G1 G2 ((l,Ar) :: (Lc++Lx x++(bk++F7 x))) T' a2 w2->Bj x G2->(cx x=.ret->B1 c .ret a2 w2)∧∀ n,cx x=.exit n->B1 c (.exit n) a2 w2) ->
   St N [] w1 F1 G1 G1 ((l,Eh) :: (Lc++Lv k i++(bk++Lt k i))) (zF ps args T) a1 w1 ->
   WP (some l) P assign (Exit.then (fun a2 w2=>∃ w3,(Instr.beginRound l).run P w2=.ok () w3∧body.wpIn (FW (some l)) 0 P (B1 body) a2 w3) (fun _ _ _=>False)) a1 w1)
  (hdone:∀ Dk i G1 a1 w1,(∀ b o,G b=some o->G1 b=some o)->inv xs.length i G1->St N ({ target:=.collected Dk,args:=#[] } :: D) w0 F G0 G1 ((Dk,.deferred (some [])) :: (Lc++Lv xs.length i++Lt xs.length i)) T a1 w1->Q .normal a1 w1)
  (hstop:∀ Dk x G1 a1 w1,(∀ b o,G b=some o->G1 b=some o)->Bj x G1->St N ({ target:=.collected Dk,args:=#[] } :: D) w0 F G0 G1 ((Dk,.deferred (some [])) :: (Lc++Lx x++F7 x)) T a1 w1->WP none P (cx x) Q a1 w1) :
  WP none P (.rangeFunc AA ps.toArray assign body) Q a w:=by
 refine amw (J:=fun k g L=>∃ i,L=Lc++Lv k i++Lt k i∧inv k i g) (Jx:=fun c g L=>∃ x,c=cx x∧L=Lc++Lx x++F7 x∧Bj x g) H hg en hit hGi hps hlen (hno:=fun e g l ⟨i,_,h⟩=>hno e i g h) (fun k G G' L hm ⟨i,e,h⟩=>⟨i,e,hinv k i G G' hm h⟩) (fun c G G' L hm ⟨x,e1,e2,h⟩=>⟨x,e1,e2,Xd x G G' hm h⟩) ⟨i0,rfl,h0⟩ ?_ ?_ ?_
 ·rintro l q bk k args G1 L1 w1 a1 hk hm ⟨i,rfl,hi⟩ H1
  have pm:∀ A B:OL,(bk++(A++B)).Perm (A++(bk++B)):=fun A B=>by
   rw [<- iZ,<- iZ]
   exact List.Perm.append_right B pK
  refine round l (q.at .ready none) (q.at .busy none) bk k args i G1 w1 _ (fun _=>roundPost P l _) a1 hk hm hi ?_ ?_ ?_ (H1.perm (List.Perm.cons _ (pm _ _)))
  ·intro T' G2 L2 a2 w2 c H2 h
   exact adi H2 h
  ·intro i' T' G2 a2 w2 c H2 h2
   exact KR none (H2.perm (List.Perm.cons _ (pm _ _).symm)) ⟨_,rfl,i',rfl,h2⟩
  ·intro x T' G2 a2 w2 c H2 h2
   have H3:=H2.perm (List.Perm.cons _ (pm _ _).symm)
   refine ⟨fun e=>?_,fun n e=>?_⟩
   ·exact KR (some .ret) H3 ⟨_,_,rfl,x,e.symm,rfl,h2⟩
   ·exact KR (some (.exit n)) H3 ⟨_,_,rfl,x,e.symm,rfl,h2⟩
 ·rintro Dk G1 L1 a1 w1 hm ⟨i,rfl,hi⟩ H1
  exact hdone Dk i G1 a1 w1 hm hi H1
 ·rintro Dk c G1 L1 a1 w1 hm ⟨x,rfl,rfl,hx⟩ H1
  exact hstop Dk x G1 a1 w1 hm hx H1
end
end
theorem IW:prog.underlying 130=some (.map 3 3):=by kernel_rfl
theorem tH:Ty prog 31 1 24 [.slice none 0 0] false:=⟨by kernel_rfl,by kernel_rfl⟩
theorem VJ:dH prog 192 3 3:=⟨by kernel_rfl⟩
theorem aeL:aQ 222:=aR func222 rfl
theorem ahx {x:Int}:∀ {l:List Int} {i n:Nat},wN x i l=some n->n < i+l.length
 | [],_,_,h=>by cases h
 | k :: r,i,n,h=>by
  rw [wN] at h;split at h
  ·cases h;simp
  have:=ahx h;simp only [kS];omega
def zH (l:List bX):Nat->Int->List bX
 | 0,_=>[]
 | f+1,id=>if id=0 then [] else match wN id 0 (l.map bX.id) with|none=>[]|some i=>match l[i]? with|none=>[]|some s=>s :: zH l f s.base
def JK (l:List bX) (id:Int):List bX:=zH l (l.length+1) id
theorem amR {l:List bX} {f:Nat} {id:Int} (h:id=0):zH l f id=[]:=by
 cases f with
 | zero=>rfl
 | succ f=>rw [zH,aG h]
theorem amP {l:List bX} {f:Nat} {id:Int} (h0:¬ id=0) (h:wN id 0 (l.map bX.id)=none):zH l f id=[]:=by
 cases f with
 | zero=>rfl
 | succ f=>rw [zH,av h0,h]
theorem amQ {l:List bX} {f i:Nat} {id:Int} (h0:¬ id=0) (h:wN id 0 (l.map bX.id)=some i) (hi:i < l.length):zH l (f+1) id=l[i] :: zH l f l[i].base:=by
 rw [zH,av h0,h];dsimp only;rw [dV hi]
def stP (x:bX):AP:=fun args g=>∃ cs,args=[.agg cs.toArray]∧aY g x.dat cs
theorem ajL {A:List bX} {k:Nat} {args:List ah} {g:GH} (h:wZ (A.map stP) k args g):∃ (hk:k < A.length) (cs:List ah),args=[.agg cs.toArray]∧aY g A[k].dat cs:=by
 obtain ⟨p,hp,hargs⟩:=h;rw [qL] at hp;obtain ⟨q,hq,rfl⟩:=pF.1 hp;obtain ⟨hk,rfl⟩:=jQ.1 hq;obtain ⟨cs,h1,h2⟩:=hargs;exact ⟨hk,cs,h1,h2⟩
abbrev bI (b:Nat) (n:Int):Nat × Obj:=(b,.cells #[vi n] 3 (0,0))
set_option maxHeartbeats 1000000 in
theorem amS {G:GH} {bl bi:Nat} {l:List bX} {id:Int} {v:ah} (hb:aH G bl 0=some v) (hv:au G (.sl 6 (l.map bX.dat)) v) (hnd:∀ (k:Nat) (h:k < l.length),l[k].id∉(l.take k).map bX.id) :
  Jc prog G [bI bi id] (.func (.func 222) #[] #[(aJ bl 0),(aJ bi 0)]) ((JK l id).map stP) (decide ((JK l id).length<=l.length)):=by
 intro J Jx fv G1 L w0 J9 hGi qy hJx hJ hO hcb hfin;refine jJ (caps:=[(aJ bl 0),(aJ bi 0)]) aeL ?_;obtain ⟨A,c,rfl,hc1,hc2,-⟩:=hv.slice;have hml:maxLen=9223372036854775807:=rfl;rw [bQ] at *;replace hb:=aF hGi hb;replace hv:=hv.mono hGi;refine jc (N:=46) (T:=[(0,_),(1,_),(2,_)]) func222 rfl ntmps222 rfl rfl hO ?_;intro a H;refine cO (fun _ K1=>?_);refine FD H wn rfl ?_;clear H;intro bm a w hbm H;refine kH H (aj K1 rfl (SQ fun _ K2=>SR fun _ K3=>Rg tH rfl (by assumption) ?_));clear H K1;intro a H;refine kH H (Rl mX rfl (Rm rfl (Kz K3 (SB ?_))));clear H K3;intro a H;skip;refine eX (ι:=Nat) (Tc:=[(0,_),(1,_),(2,_),(4,_),(10,_),(11,_)]) (Lc:=[(_,_)]) (fun gh=>[(12,vi gh)]) (fun gh=>[alB bm ((l.take gh).map bX.id)]++L) (fun gh=>G1) (fun gh=>gh<=l.length) (fun gh=>l.length - gh) (0) (by exact (H.eD (Pl:=[_,_]) (dN:=[_,_]) [1,0] (by decide) rfl).sub ⟨rfl,rfl,rfl,rfl,rfl,rfl,rfl,aB⟩) ?_ ?_
 ·exact kE _
 clear H;intro k a w hI H;have hk:=hI;dsimp only [lca,bJ] at H;refine kP H (SR fun _ K4=>Rc rfl (Kz K4 (SQ fun _ K5=>Cd rfl ?_ ?_))) <;> clear H K4
 ·intro gQ a H
  try have sw:=dT gQ
  have hk2:k < l.length:=by omega
  obtain ⟨b,o,pA,pc,rfl,hrow,hp,hrep⟩:=Em hv hk2;have aug:=hnd k hk2
  have hlk:((l.take k).map bX.id).length=k:=by rw [bQ,List.length_take];omega
  have hnx:(l.take k).map bX.id++[l[k].id]=(l.take (k+1)).map bX.id:=by rw [kg hk2,kF];rfl
  refine kP H (Kc K5 (SQ fun _ K6=>SB (SR fun _ K7=>Rm rfl (Ri mX kZ rfl rfl ?_))));clear H K5;intro a H;refine bP kZ (cs:=[_,_,_,_,_,_]) H wn rfl rfl (fun j v hj=>H.hp.aH (hrow j v hj)) rfl ?_;clear H;intro a H;refine dO kZ H wn rfl ?_;clear H;intro b6 a w hb6 H;refine kH H (Ra rfl ?_);clear H;intro a H;refine bC kZ 0 (vs:=[_,_,_,_,_,_]) H wn rfl ?_;clear H;intro w H;refine K7 _ _ ?_;clear K7;refine kP H (SC (Rm rfl (bq xM aC 0 rfl rfl (Rm rfl ?_))));clear H;intro a H;refine aju (i:=2) (ky:=vi l[k].id) (v:=vi k) IW mh H wn rfl rfl rfl rfl (by trivial) (by rw [List.toList_toArray,VO,ahy aug];rfl) ?_;clear H;intro w H
  have hpush:((yZ 0 ((l.take k).map bX.id)).toArray.push ⟨vi l[k].id,vi k,((l.take k).map bX.id).length⟩)=(yZ 0 ((l.take (k+1)).map bX.id)).toArray:=by rw [<- hnx,<- awq,hlk]
  rw [hpush,show ((l.take k).map bX.id).length+1=((l.take (k+1)).map bX.id).length by rw [<- hnx];simp] at H;refine kH H (Kn K6 (SC (Rd rfl (Rm rfl ?_))));clear H K6;intro a H;refine aD ?_;refine dG ((k+1)) (by exact (H.eD (Pl:=[_,_,_]) (dN:=[_,_]) [1,2] (by decide) rfl).sub ⟨rfl,rfl,rfl,rfl,rfl,rfl,rfl,aB⟩) ?_
  exact by omega
 intro gQ a H
 try have sw:=dF gQ
 obtain rfl:k=l.length:=by omega
 rw [zC] at H;refine dP ?_;refine K2 _ _ ?_;clear K2;refine Cj ?_;skip;refine eX (ι:=Int × Nat × Nat × OL × GH) (Tc:=[(0,_),(1,_),(2,_),(4,_)]) (Lc:=[(_,_)]) (fun gh=>[]) (fun gh=>[bI bi gh.1]++gh.2.2.2.1) (fun gh=>gh.2.2.2.2) (fun gh=>(∀ b o,G1 b=some o->gh.2.2.2.2 b=some o)∧Now ((JK l id).map stP) stP J (JK l id).length gh.2.2.1 (zH l gh.2.1 gh.1) gh.2.2.2.2 gh.2.2.2.1∧gh.2.2.1+gh.2.1=l.length+1) (fun gh=>gh.2.1) ((id,l.length+1,0,L,G1)) (by exact (H.eD (Pl:=[_,_]) (dN:=[_,_]) [1,0] (by decide) rfl).sub ⟨rfl,rfl,rfl,rfl,aB⟩) ?_ ?_
 ·exact ⟨fun _ _ h=>h,⟨hJ,fun i a h=>by rw [gI,qL];rw [show zH l (l.length+1) id=JK l id from rfl] at h;rw [h];rfl,gI _⟩,gI _⟩
 clear H;rintro ⟨i,f,j1,Lt,g⟩ a w hI H;dsimp only at hI H;obtain ⟨hgm,fI,hjf⟩:=hI;have hbg:=aF hgm hb;dsimp only [lca,bJ] at H;refine kP H (SQ fun _ K8=>SR fun _ K9=>Ro aC 1 rfl (Rc rfl (Kz K9 (Cd rfl ?_ ?_)))) <;> clear H K9
 ·intro h23 a H
  try have Bq:=dT h23
  have h0:¬ i=0:=by simpa using h23
  obtain ⟨an,han⟩:∃ an,an=wN i 0 (l.map bX.id):=⟨_,rfl⟩;have hfn:=VO i 0 0 (l.map bX.id);rw [<- han] at hfn;refine kP H (Kc K8 (SB (SR fun _ aW=>Rm rfl (Ro aC 1 rfl ?_))));clear H K8;intro a H;refine azi (i:=0) (zv:=vi 0) _ IW mh (by kernel_rfl) H wn rfl rfl rfl (by trivial) (by simpa using hfn) rfl ?_;clear H;intro a H;refine kH H (Rm rfl ?_);clear H;intro a H;(iterate 2 refine mg H wn rfl rfl rfl ?_;clear H;intro a H);refine kH H (Ra rfl (aj aW rfl (SQ fun _ bM=>SR fun _ bU=>Rm rfl (Rn rfl (Rm rfl (Sp 32 rfl ?_ ?_)))))) <;> clear H aW
  ·intro h32 a H
   try have p32:=dT h32
   obtain rfl:an=none:=by
    cases an with
    | none=>rfl
    | some n=>simp [Eb] at h32
   rw [amP h0 han.symm] at fI;refine kH H (bB h32 rfl (aP h32 rfl (aP h32 rfl (Pt h32 rfl (Kz bU (Ct rfl rfl ?_))))));clear H bU;intro a H;refine eO ?_;refine (leave0 H results222 ?_).1;refine H.hp.jY (L':=Lt) (by repeat (first|exact jE _|apply List.Sublist.cons)) (.inl ?_);have h:=fI.len
   simp only [List.length_nil,zy] at h
   rw [<- h];exact fI.now
  intro h32 a H
  try have p32:=dF h32
  obtain ⟨n,rfl⟩:∃ n,an=some n:=by
   cases an with
   | none=>simp [Eb] at h32
   | some n=>exact ⟨n,rfl⟩
  have hnl:n < l.length:=by have:=ahx han.symm;simpa using this
  obtain ⟨f',rfl⟩:∃ f',f=f'+1:=by
   cases f with
   | succ f'=>exact ⟨f',rfl⟩
   | zero =>
    exfalso
    have hl:=fI.len
    simp only [zH,List.length_nil,zy] at hl
    refine hfin (qN (by omega)) g Lt ?_;rw [<- hl];exact fI.now
  rw [amQ h0 han.symm hnl] at fI;dsimp only [Eb,Option.map_some] at H;obtain ⟨b,o,pA,pc,rfl,hrow,hp,hrep⟩:=Em (hv.mono hgm) hnl;refine kH H (YM h32 rfl (YR tH h32 rfl (by assumption) ?_));clear H;intro a H;refine kH H (YM h32 rfl (YI mX kZ h32 rfl rfl ?_));clear H;intro a H;refine bP kZ (cs:=[_,_,_,_,_,_]) H (wg H rfl rfl h32) rfl rfl (fun j v hj=>H.hp.aH (hrow j v hj)) rfl ?_;clear H;intro a H;refine xY (Li:=[_,_]) (L:=Lt) H (wg H rfl rfl h32) rfl rfl (hcb j1 _ _ _ _ ⟨_,fI.head,_,rfl,hrep⟩ hgm fI.now (Hp.owns (Li:=[_,_]) H.hp)) rfl ?_;clear H;rintro v38 Tq aae a w ⟨b38,rfl,hb1,hb2⟩ Kh H;have hbg:=aF Kh hbg;have r3:=aF Kh (hrow 3 _ rfl);refine kH H (YN h32 rfl (Pf h32 rfl (Kz bU (Cd rfl ?_ ?_)))) <;> clear H bU
  ·intro lD a H
   try have p40:=dT lD
   refine eO ?_;refine (leave0 H results222 ?_).1;exact H.hp.jY (L':=aae) (by repeat (first|exact jE _|apply List.Sublist.cons)) (.inr (hb2 (by simpa using lD)))
  intro lD a H
  try have p40:=dF lD
  refine kP H (Kc bM (SC (Rg tH rfl (by assumption) ?_)));clear H bM;intro a H;refine kH H (Rm rfl (Ri mX kZ rfl rfl (Rf VJ rfl (Rg aC rfl (by assumption) ?_))));clear H;intro a H;refine bC aC 1 (vs:=[_]) H wn rfl ?_;clear H;intro w H;refine aD ?_;refine dG ((l[n].base,f',j1+1,aae,Tq)) (by exact H.sub ⟨rfl,rfl,rfl,rfl,aB⟩) ?_
  (try dsimp only);exact ⟨fun b o h=>Kh b o (hgm b o h),fI.step (hb1 (by simpa using lD)),by omega⟩
 intro h23 a H
 try have Bq:=dF h23
 refine dP ?_;refine (leave0 H results222 ?_).2;rw [amR (by simpa using h23)] at fI;refine H.hp.jY (L':=Lt) (by repeat (first|exact jE _|apply List.Sublist.cons)) (.inl ?_);have h:=fI.len
 simp only [List.length_nil,zy] at h
 rw [<- h];exact fI.now
theorem apn:aQ 182:=aR func182 rfl
theorem apm:aQ 180:=aR func180 rfl
theorem Vt:aQ 181:=aR func181 rfl
theorem Qa:dH prog 192 4 4:=⟨by kernel_rfl⟩
theorem amT {G:GH} {w0:World} (hO:gH G [] w0) (l:List bX) (id:Int) (v:ah) (hv:au G (.sl 6 (l.map bX.dat)) v) :
  Calls prog 182 #[v,vi id] w0 (fU w0 G [] fun u G' L'=>∃ bl bi,u=.func (.func 222) #[] #[(aJ bl 0),(aJ bi 0)]∧L'=[bI bi id]∧aH G' bl 0=some v):=by
 obtain ⟨A,c,rfl,hc1,hc2,-⟩:=hv.slice;refine jc (N:=6) (T:=[(0,_),(1,_)]) func182 rfl ntmps182 rfl rfl hO ?_;intro a H;refine cO (fun _ K1=>?_);refine dW (cs:=[_]) H wn rfl rfl rfl ?_;clear H;intro b2 a w hb2 H;refine dW (cs:=[_]) H wn rfl rfl rfl ?_;clear H;intro b3 a w hb3 H;refine kH H (aj K1 rfl (SR fun _ K2=>?_));clear H K1;intro a H;refine rM H wn rfl rfl ?_;clear H;intro a H;refine kH H (aj K2 rfl ?_);clear H K2;intro a H;refine lr H results182 rfl ?_;have H:=H.eD (Pl:=[_,_]) (dN:=[_,_]) [1,0] (by decide) rfl;obtain ⟨Ga,hma,hb2',H⟩:=H.fB;exact H.hp.fQ ⟨b2,b3,rfl,rfl,by unfold aH;rw [hb2'];rfl⟩
def vI (p:Nat->Int):Nat->Nat->Int
 | _,0=>0
 | k,n+1=>if p k=0 then vI p (k+1) n else p k
theorem aqR {p:Nat->Int} {k m:Nat} (h:k < m):vI p k (m - k)=if p k=0 then vI p (k+1) (m - (k+1)) else p k:=by
 obtain ⟨n,hn⟩:∃ n,m - k=n+1:=⟨m - k - 1,by omega⟩;rw [hn,vI,show m - (k+1)=n by omega]
theorem aqQ {p:Nat->Int} {k m:Nat} (h:m<=k):vI p k (m - k)=0:=by rw [show m - k=0 by omega];rfl
theorem afc {p:Nat->Int}:∀ {n k:Nat},vI p k n=0->∀ j,k<=j->j < k+n->p j=0
 | 0,k,_,j,h1,h2=>by omega
 | n+1,k,h,j,h1,h2=>by
  rw [vI] at h;split at h
  ·rename_i hp
   by_cases e:j=k
   ·rw [e];exact hp
   exact afc h j (by omega) (by omega)
  rename_i hp;exact absurd h hp
def Bp (l:List bX) (k:Nat):Int:=match l[k]? with|some s=>nM l k s|none=>0
theorem aiF {l:List bX} {k:Nat} (h:k < l.length):Bp l k=nM l k l[k]:=by unfold Bp;rw [dV h]
def yC (l:List bX) (s:bX):Bool:=(decide (s.base≠0) && !NK l s.kind s.base) || (decide (s.next≠0) && (decide (s.kind=2) || !NK l 1 s.next))
def Vi (l:List bX) (s:bX):Bool:=decide (l.length < (JK l s.id).length)
def Av (l:List bX):Int:=if 128 < l.length then 9 else if vI (Bp l) 0 l.length≠0 then vI (Bp l) 0 l.length else if l.any (yC l)=true then 25 else if l.any (Vi l)=true then 16 else 0
theorem axj {l:List bX} (h:vI (Bp l) 0 l.length=0) {k:Nat} (hk:k+1 < l.length):l[k].id < l[k+1].id:=by
 have h1:=afc h (k+1) (kE _) (by omega);rw [aiF hk,nM,xV] at h1
 have hp:zX l (k+1)=some l[k].id:=by rw [zX,dw,Nat.add_sub_cancel,dV (by omega)];rfl
 rw [hp] at h1
 split at h1
 ·cases h1
 split at h1
 ·cases h1
 split at h1
 ·cases h1
 rename_i _ h2 h3
 have h2':¬ l[k].id=l[k+1].id:=fun e=>h2 (by rw [e]);have h3':¬ l[k+1].id < l[k].id:=fun e=>h3 (aI e)
 omega
theorem aiG {l:List bX} (h:vI (Bp l) 0 l.length=0):∀ {k j:Nat} (hk:k < l.length) (hj:j < k),l[j].id < l[k].id
 | k+1,j,hk,hj=>by
  have h1:=axj h hk
  by_cases e:j=k
  ·subst e;exact h1
  have:=aiG h (k:=k) (j:=j) (by omega) (by omega)
  omega
theorem aiH {l:List bX} (h:vI (Bp l) 0 l.length=0) (k:Nat) (hk:k < l.length):l[k].id∉(l.take k).map bX.id:=by
 intro hm;obtain ⟨x,hx1,hx2⟩:=List.mem_map.1 hm;obtain ⟨j,hj,rfl⟩:=List.getElem_of_mem hx1;rw [List.getElem_take] at hx2;rw [List.length_take] at hj;have:=aiG h hk (j:=j) (by omega)
 omega
theorem aas {α:Type} {p:α->Bool} {l:List α} {k:Nat} (hk:k < l.length) (h:(l.take k).any p=false) (hp:p l[k]=false):(l.take (k+1)).any p=false:=by
 rw [kg hk,List.any_append,h];simp [hp]
theorem Jq {α:Type} {p:α->Bool} {l:List α} {k:Nat} (hk:k < l.length) (hp:p l[k]=true):l.any p=true:=List.any_eq_true.2 ⟨_,jB hk,hp⟩
theorem aar {α:Type} {p:α->Bool} {l:List α} {k:Nat} (hk:l.length<=k) (h:(l.take k).any p=false):¬ l.any p=true:=by
 rw [nU hk] at h;rw [h];decide
theorem O7 {p:Prop} (h:p:=by
 first
  | exact H.rt (dh vi (by rw [Av,mQ]))
  | exact H.rt (dh vi (by rw [av (by simpa using oK)] at heq;rw [Av,dw,<- heq,aG (by simpa using oK)]))
  | exact H.rt (dh vi (by rw [Av,dw,av (by rw [hok];decide),aG hbad]))
  | exact H.rt (dh vi (by rw [Av,dw,av (by rw [hok];decide),av hbad,aG (Jq hj2 hI)]))
  | exact H.rt (dh vi (by rw [Av,dw,av (by rw [hok];decide),av hbad,av (aar (by omega) hnc)]))):p:=h
theorem Uh {p:Prop} (h:p:=by
 exact ⟨by omega,aas hk4 hno (by unfold yC;simp_all),iF⟩):p:=h
theorem Mg {p:Prop} (h:p:=by
 refine eO ?_;refine (leave1 H results119 (.cons (Sj jv H rfl (H.hp.wS 1 rfl rfl)) .nil) ?_).1
 exact O7):p:=h
theorem acr {p:Prop} (h:p:=by
 intro iQ a H
 try have p59:=dF iQ
 refine kP H (Kc dX (SC (Rd rfl (Rm rfl ?_))));clear H dX;intro a H;refine aD ?_;refine dG ((k+1,g2)) (by exact (H.eD (Pl:=[_,_,_]) (dN:=[_,_]) [1,2] (by decide) rfl).sub ⟨rfl,rfl,rfl,rfl,rfl,aB⟩) ?_
 (try dsimp only);exact Uh):p:=h
theorem acW {p:Prop} (h:p:=by
 refine eO ?_;refine (leave1 H results119 (.cons (Sj jv H rfl (H.hp.wS 0 rfl rfl)) .nil) ?_).1
 exact O7):p:=h
set_option maxHeartbeats 1000000 in
theorem anb (G:GH) (w0:World) (hG:Hold G w0) (l:List bX) (v:ah) (hv:au G (.sl 6 (l.map bX.dat)) v) (hN:∀ s∈l,s.name.size<=4611686018427387904) :
  Calls prog 119 #[v] w0 (bK w0 G fun u G'=>u=vi (Av l)):=by
 obtain ⟨A,c,rfl,hc1,hc2,-⟩:=hv.slice;have hml:maxLen=9223372036854775807:=rfl;rw [bQ] at *;refine eN [(0,_)] func119 rfl ntmps119 rfl rfl hG ?_;intro a H;refine cO (fun _ K1=>?_);refine dW (cs:=[_]) H wn rfl rfl rfl ?_;clear H;intro b1 a w hb1 H;refine dO jv H wn rfl ?_;clear H;intro b2 a w hb2 H;refine K1 _ _ ?_;clear K1;refine kP H (SQ fun _ K2=>SR fun _ K3=>Ro tH 1 rfl (Rl mX rfl (Rc rfl (Kz K3 (Cd rfl ?_ ?_))))) <;> clear H K3
 ·intro h12 a H
  try have qD:=dT h12
  refine cO (fun _ K4=>?_);refine bC jv 0 (vs:=[_]) H wn rfl ?_;clear H;intro w H;refine K4 _ _ ?_;clear K4;exact acW
 intro h12 a H
 try have qD:=dF h12
 refine kP H (Kc K2 (SQ fun _ K5=>SR fun _ K6=>Ro tH 1 rfl (Rl mX rfl (Rm rfl (Kz K6 (SB ?_))))));clear H K2 K6;intro a H;skip;refine eX (ι:=Nat × GH) (Tc:=[(1,_),(2,_),(14,_)]) (Lc:=[(_,_),(_,_)]) (fun gh=>[(15,vi gh.1)]) (fun gh=>[]) (fun gh=>gh.2) (fun gh=>gh.1<=l.length∧vI (Bp l) gh.1 (l.length - gh.1)=vI (Bp l) 0 l.length∧(∀ b o,G b=some o->gh.2 b=some o)) (fun gh=>l.length - gh.1) ((0,G)) (by exact H.sub ⟨rfl,rfl,rfl,rfl,aB⟩) ?_ ?_
 ·exact EG
 clear H;rintro ⟨k,g⟩ a w hI H;dsimp only at hI H;obtain ⟨hk,heq,hgm⟩:=hI;dsimp only [lca,bJ] at H;refine kP H (SR fun _ K7=>Rc rfl (Kz K7 (SQ fun _ K8=>Cd rfl ?_ ?_))) <;> clear H K7
 ·intro h16 a H
  try have p16:=dT h16
  have hk2:k < l.length:=by omega
  rw [aqR hk2,aiF hk2] at heq;refine kP H (Kc K8 (SQ fun _ K9=>SB (SR fun _ aW=>Rm rfl (aj aW rfl (SR fun _ bM=>Ro tH 1 rfl (Rm rfl ?_))))));clear H K8 aW;intro a H;refine s_call apm H wn rfl (axk _ _ H.ro l k _ (hv.mono hgm) hk2 (hN _ (jB hk2))) rfl ?_;clear H;rintro v20 FU a w rfl rG H;refine kH H (aj bM rfl (SR fun _ bU=>Rm rfl (Rc rfl (Kz bU (Cd rfl ?_ ?_))))) <;> clear H bM bU
  ·intro h22 a H
   try have oK:=dT h22
   refine kP H (SR fun _ bY=>Rm rfl ?_);clear H;intro a H;refine bC jv 0 (vs:=[_]) H wn rfl ?_;clear H;intro w H;refine bY _ _ ?_;clear bY;exact acW
  intro h22 a H
  try have oK:=dF h22
  refine kP H (Kc K9 (SC (Rd rfl (Rm rfl ?_))));clear H K9;intro a H;refine aD ?_;refine dG ((k+1,FU)) (by exact H.sub ⟨rfl,rfl,rfl,rfl,aB⟩) ?_
  (try dsimp only);exact ⟨by omega,by rw [aG (by simpa using oK)] at heq;exact heq,fun b o h=>rG b o (hgm b o h)⟩
 intro h16 a H
 try have p16:=dF h16
 have hok:vI (Bp l) 0 l.length=0:=by rw [<- heq];exact aqQ (by omega)
 clear heq;have CJ:=hv.mono hgm;refine dP ?_;refine K5 _ _ ?_;clear K5;refine kP H (SQ fun _ cZ=>SR fun _ dQ=>Ro tH 1 rfl (Rl mX rfl (Rm rfl (Kz dQ (SB ?_)))));clear H dQ;intro a H;skip;refine eX (ι:=Nat × GH) (Tc:=[(1,_),(2,_),(25,_),(26,_)]) (Lc:=[(_,_),(_,_)]) (fun gh=>[(27,vi gh.1)]) (fun gh=>[]) (fun gh=>gh.2) (fun gh=>gh.1<=l.length∧(l.take gh.1).any (yC l)=false∧(∀ b o,g b=some o->gh.2 b=some o)) (fun gh=>l.length - gh.1) ((0,g)) (by exact H.sub ⟨rfl,rfl,rfl,rfl,rfl,aB⟩) ?_ ?_
 ·exact EG
 clear H;rintro ⟨k,g2⟩ a w hI H;dsimp only at hI H;obtain ⟨hk3,hno,iF⟩:=hI;have Bh:=CJ.mono iF;dsimp only [lca,bJ] at H;refine kP H (SR fun _ dR=>Rc rfl (Kz dR (SQ fun _ dK=>Cd rfl ?_ ?_))) <;> clear H dR
 ·intro fZ a H
  try have p28:=dT fZ
  have hk4:k < l.length:=by omega
  obtain ⟨b,o,pA,pc,rfl,hrow,hp,hrep⟩:=Em Bh hk4;refine kP H (Kc dK (SQ fun _ dX=>SB (SR fun _ fM=>Ri mX kZ rfl rfl ?_)));clear H dK;intro a H;refine bP kZ (cs:=[_,_,_,_,_,_]) H wn rfl rfl (fun j v hj=>H.hp.aH (hrow j v hj)) rfl ?_;clear H;intro a H;refine dO kZ H wn rfl ?_;clear H;intro b6 a w hb6 H;refine bC kZ 0 (vs:=[_,_,_,_,_,_]) H wn rfl ?_;clear H;intro w H;refine fM _ _ ?_;clear fM;refine kP H (SR fun _ eP=>bq VJ aC 0 rfl rfl (Rc rfl (Rm rfl (Sp 34 rfl ?_ ?_)))) <;> clear H
  ·intro fq a H
   try have p34:=dT fq
   refine kH H (YO tH 2 fq rfl (YF zL fq rfl (YO aC 0 fq rfl (YF VJ fq rfl (YO aC 0 fq rfl ?_)))));clear H;intro a H;refine s_call Vt H (wg H rfl rfl fq) rfl (XO _ _ H.ro l l[k].kind l[k].base _ Bh) rfl ?_;clear H;rintro v40 g2 a w rfl DZ H;replace iF:=fun b o (h:g b=some o)=>DZ b o (iF b o h);replace Bh:=Bh.mono DZ;refine kH H (YN fq rfl (Pt fq rfl (Rm rfl (Sp 43 rfl ?_ ?_)))) <;> clear H
   ·intro h43 a H
    try have p43:=dT h43
    refine kH H (aP h43 rfl (aP h43 rfl (Ku rfl (Ku rfl (Ku rfl (Ku rfl (Ku rfl (Ku rfl (Ku rfl (Ku rfl (Ku rfl (Ku rfl (Ks h43 rfl (Pt h43 rfl (Kz eP (Ct rfl rfl (SQ fun _ gB=>?_)))))))))))))))));clear H eP;intro a H;have hbad:l.any (yC l)=true:=Jq hk4 (by unfold yC;simp_all);refine nH ?_;refine bC jv 1 (vs:=[_]) H wn rfl ?_;clear H;intro w H;refine aD ?_;refine gB _ _ ?_;clear gB;exact Mg
   intro h43 a H
   try have p43:=dF h43
   refine kH H (YF Qa h43 rfl (YO aC 0 h43 rfl (YC h43 rfl (YM h43 rfl (Sp 47 rfl ?_ ?_))))) <;> clear H
   ·intro h47 a H
    try have p47:=dT h47
    refine kH H (YF zL h47 rfl (YO aC 0 h47 rfl (YC h47 rfl (YM h47 rfl (Sp 51 rfl ?_ ?_))))) <;> clear H
    ·intro lT a H
     try have p51:=dT lT
     refine kH H (bB lT rfl (aP lT rfl (PT h47 lT rfl (PT h43 h47 rfl (Pf h43 rfl (Kz eP (Ct rfl rfl (SQ fun _ iH=>?_))))))));clear H eP;intro a H;have hbad:l.any (yC l)=true:=Jq hk4 (by unfold yC;simp_all);refine nH ?_;refine bC jv 1 (vs:=[_]) H wn rfl ?_;clear H;intro w H;refine aD ?_;refine iH _ _ ?_;clear iH;exact Mg
    intro lT a H
    try have p51:=dF lT
    refine kH H (YO tH 2 lT rfl (YF Qa lT rfl (YO aC 0 lT rfl ?_)));clear H;intro a H;refine s_call Vt H (wg H rfl rfl lT) rfl (XO _ _ H.ro l 1 l[k].next _ Bh) rfl ?_;clear H;rintro v55 g2 a w rfl Bc H;replace iF:=fun b o (h:g b=some o)=>Bc b o (iF b o h);replace Bh:=Bh.mono Bc;refine kH H (YN lT rfl (PF h47 lT rfl (PT h43 h47 rfl (Pf h43 rfl (Kz eP (Cd rfl ?_ ?_)))))) <;> clear H eP
    ·intro iQ a H
     try have p59:=dT iQ
     refine bD (fun _ jP=>?_);have hbad:l.any (yC l)=true:=Jq hk4 (by unfold yC;simp_all);refine nH ?_;refine bC jv 1 (vs:=[_]) H wn rfl ?_;clear H;intro w H;refine aD ?_;refine jP _ _ ?_;clear jP;exact Mg
    exact acr
   intro h47 a H
   try have p47:=dF h47
   refine kH H (aP h47 rfl (aP h47 rfl (Ku rfl (Ku rfl (Ku rfl (Ku rfl (Ku rfl (Ks h47 rfl (PF h43 h47 rfl (Pf h43 rfl (Kz eP (Cf rfl rfl (Kc dX (SC (Rd rfl (Rm rfl ?_))))))))))))))));clear H eP dX;intro a H;refine aD ?_;refine dG ((k+1,g2)) (by exact (H.eD (Pl:=[_,_,_]) (dN:=[_,_]) [1,2] (by decide) rfl).sub ⟨rfl,rfl,rfl,rfl,rfl,aB⟩) ?_
   (try dsimp only);exact Uh
  intro fq a H
  try have p34:=dF fq
  refine kH H (bB fq rfl (aP fq rfl (aP fq rfl (Pf fq rfl (Rm rfl ?_)))));clear H;intro a H;refine IK Qa H (wg H rfl rfl rfl) rfl rfl ?_;clear H;intro a H;refine qE aC H (wg H rfl rfl rfl) rfl (H.hp.wS 0 rfl rfl) rfl ?_;clear H;intro a H;refine Fz H (wg H rfl rfl rfl) rfl rfl rfl rfl ?_;clear H;intro a H;refine FE H (wg H rfl rfl rfl) rfl rfl ?_;clear H;intro a H;refine YV H 47 rfl ?_ ?_
  ·intro h47
   try have p47:=dT h47
   refine kH H (YF zL h47 rfl (YO aC 0 h47 rfl (YC h47 rfl (YM h47 rfl (Sp 51 rfl ?_ ?_))))) <;> clear H
   ·intro lT a H
    try have p51:=dT lT
    refine kH H (bB lT rfl (aP lT rfl (PT h47 lT rfl ?_)));clear H;intro a H;refine N7 H (wg H rfl rfl rfl) rfl h47 rfl rfl ?_;clear H;intro a H;refine kH H (Pf rfl rfl (Kz eP (Ct rfl rfl (SQ fun _ jH=>?_))));clear H eP;intro a H;have hbad:l.any (yC l)=true:=Jq hk4 (by unfold yC;simp_all);refine nH ?_;refine bC jv 1 (vs:=[_]) H wn rfl ?_;clear H;intro w H;refine aD ?_;refine jH _ _ ?_;clear jH;exact Mg
   intro lT a H
   try have p51:=dF lT
   refine kH H (YO tH 2 lT rfl (YF Qa lT rfl (YO aC 0 lT rfl ?_)));clear H;intro a H;refine s_call Vt H (wg H rfl rfl lT) rfl (XO _ _ H.ro l 1 l[k].next _ Bh) rfl ?_;clear H;rintro v55 g2 a w rfl Bc H;replace iF:=fun b o (h:g b=some o)=>Bc b o (iF b o h);replace Bh:=Bh.mono Bc;refine kH H (YN lT rfl (PF h47 lT rfl ?_));clear H;intro a H;refine N7 H (wg H rfl rfl rfl) rfl h47 rfl rfl ?_;clear H;intro a H;refine kH H (Pf rfl rfl (Kz eP (Cd rfl ?_ ?_))) <;> clear H eP
   ·intro iQ a H
    try have p59:=dT iQ
    refine bD (fun _ jr=>?_);have hbad:l.any (yC l)=true:=Jq hk4 (by unfold yC;simp_all);refine nH ?_;refine bC jv 1 (vs:=[_]) H wn rfl ?_;clear H;intro w H;refine aD ?_;refine jr _ _ ?_;clear jr;exact Mg
   exact acr
  intro h47
  try have p47:=dF h47
  refine kH H (aP h47 rfl (aP h47 rfl (Ku rfl (Ku rfl (Ku rfl (Ku rfl (Ku rfl (Ks h47 rfl ?_))))))));clear H;intro a H;refine Sn H (wg H rfl rfl rfl) rfl h47 rfl rfl ?_;clear H;intro a H;refine kH H (Pf rfl rfl (Kz eP (Cf rfl rfl (Kc dX (SC (Rd rfl (Rm rfl ?_)))))));clear H eP dX;intro a H;refine aD ?_;refine dG ((k+1,g2)) (by exact (H.eD (Pl:=[_,_,_]) (dN:=[_,_]) [1,2] (by decide) rfl).sub ⟨rfl,rfl,rfl,rfl,rfl,aB⟩) ?_
  (try dsimp only);exact Uh
 intro fZ a H
 try have p28:=dF fZ
 have hbad:=aar (by omega) hno;refine dP ?_;refine cZ _ _ ?_;clear cZ;refine kP H (SQ fun _ kN=>SR fun _ kQ=>Ro tH 1 rfl (Rl mX rfl (Rm rfl (Kz kQ (SB ?_)))));clear H kQ;intro a H;skip;refine amu (ι:=Nat × GH × List Nat) (Tc:=[(1,_),(2,_),(61,_),(62,_)]) (Lc:=[(_,_),(_,_)]) (fun gh=>Yd gh.2.2) (fun gh=>[(63,vi gh.1)]) (fun gh=>[]++(Iy gh.2.2++[])) (fun gh=>gh.2.1) (fun gh=>gh.1<=l.length∧(l.take gh.1).any (Vi l)=false∧(∀ b o,g2 b=some o->gh.2.1 b=some o)) (fun gh=>l.length - gh.1) ((0,g2,[])) (by exact H.sub ⟨rfl,rfl,rfl,rfl,rfl,aB⟩) ?_ ?_
 ·exact EG
 clear H;rintro ⟨j,g3,ds⟩ a w hI H;dsimp only at hI H;obtain ⟨hj,hnc,qR⟩:=hI;have XF:=Bh.mono qR;dsimp only [lca,bJ] at H;refine kP H (SR fun _ jh=>Rc rfl (Kz jh (SQ fun _ mD=>Cd rfl ?_ ?_))) <;> clear H jh
 ·intro h64 a H
  try have p64:=dT h64
  have hj2:j < l.length:=by omega
  obtain ⟨b,o,pA,pc,rfl,hrow,hp,hrep⟩:=Em XF hj2;refine kP H (Kc mD (SQ fun _ nE=>SB (SR fun _ mE=>Ri mX kZ rfl rfl ?_)));clear H mD;intro a H;refine bP kZ (cs:=[_,_,_,_,_,_]) H wn rfl rfl (fun j v hj=>H.hp.aH (hrow j v hj)) rfl ?_;clear H;intro a H;refine dO kZ H wn rfl ?_;clear H;intro b8 a w HV H;refine bC kZ 0 (vs:=[_,_,_,_,_,_]) H wn rfl ?_;clear H;intro w H;refine mE _ _ ?_;clear mE;refine cO (fun _ oC=>?_);refine dO aC H wn rfl ?_;clear H;intro b9 a w Cu H;refine bC aC 0 (vs:=[_]) H wn rfl ?_;clear H;intro w H;refine oC _ _ ?_;clear oC;refine kP H (SR fun _ nQ=>Ro tH 3 rfl (bq xM aC 1 rfl rfl ?_));clear H;intro a H;refine gy apn (Li:=[_,_,_,_]++Iy ds) (L:=[]) (St.un (A:=[_,_,_,_]) H) wn rfl (amT (Hp.owns (Li:=[_,_,_,_]++Iy ds) (St.un (A:=[_,_,_,_]) H).hp) l l[j].id _ XF) rfl ?_;clear H;rintro v70 g4 L70 a w ⟨bl,bi,rfl,rfl,hbl⟩ agI H;have H:=(St.NQ (A:=[_,_,_,_,_]) (B:=Iy ds) (H.perm pK));dsimp only [lca,bJ] at H;have hit:=amS (l:=l) (id:=l[j].id) (bi:=bi) hbl (XF.mono agI) (aiH hok);refine nQ _ _ ?_;clear nQ;refine Cj ?_;skip;refine amx (B:=[(_,_)]) (ι:=Unit) (κ:=Int) (Lc:=[(_,_),(_,_)]) (fun (k:Nat) (gh:Unit)=>[(b9,.cells #[vi k] 3 (0,0)),(b2,.cells #[vi 0] 49 (0,0))]) (fun (k:Nat) (gh:Unit)=>(Iy ds++[])) (fun (k:Nat) (gh:Unit) (g:GH)=>k<=l.length) (fun (gx:Int)=>Code.ret) (fun (gx:Int)=>[(b9,.cells #[vi gx] 3 (0,0)),(b2,.cells #[vi 16] 49 (0,0))]) (fun (gx:Int)=>(Iy ds++[])) (fun (gx:Int) (g:GH)=>Vi l l[j]=true) (()) (by exact H.eD (Pl:=[_,_,_,_,_]) (dN:=[_,_,_,_,_]) [0,2,4,1,3] (by decide) rfl) rfl aeL (hit) (fun _ _ h=>h) (fun e i g h=>absurd (of_decide_eq_false e) (by rw [bQ] at h;omega)) rfl (fun k args g h=>by obtain ⟨_,_,rfl,_⟩:=ajL h;rfl) (fun _ _ _ _ _ h=>h) (fun _ _ _ _ h=>h) (kE _) ?_ ?_ ?_
  ·clear H;intro l21 Eh Ar bk k args gh Tn w21 F21 B21 a agA Cy hI ate auf auQ H;obtain ⟨agA,aBM,rfl,aCy⟩:=ajL agA;dsimp only [zF,List.cons_append,List.nil_append] at H;refine iB ?_;refine ate _ _ _ _ _ _ (by exact H) ?_;clear H;intro w H;refine kP H (SB (SR fun _ oO=>Ro aC 3 rfl (Rd rfl ?_)));clear H;intro a H;refine bC aC 3 (vs:=[_]) H wn rfl ?_;clear H;intro w H;refine oO _ _ ?_;clear oO;refine kP H (SR fun _ sI=>Ro aC 3 rfl (Ro tH 2 rfl (Rl mX rfl (Rc rfl (Kz sI (Cd rfl ?_ ?_)))))) <;> clear H sI
   ·intro Ho a H
    try have KN:=dT Ho
    refine cO (fun _ rQ=>?_);refine bC jv 4 (vs:=[_]) H wn rfl ?_;clear H;intro w H;refine rQ _ _ ?_;clear rQ;refine eO ?_;refine (auQ ((k:Int)+1) _ _ _ _ _ (by exact H) ?_).1 rfl;exact nT (by omega)
   intro Ho a H
   try have KN:=dF Ho
   refine iB ?_;refine auf (()) _ _ _ _ _ (by exact H) ?_
   omega
  ·clear H;intro ZK gh ZX a w Cy hI H;dsimp only [lca,bJ] at H;refine nE _ _ ?_;clear nE;refine kP H (SC (Rd rfl (Rm rfl ?_)));clear H;intro a H;refine aD ?_;refine awf ((j+1,ZX,ZK :: ds)) (by exact (H.eD (Pl:=[_,_,_,_,_]) (dN:=[_,_,_]) [4,2,0] (by decide) rfl).sub ⟨rfl,rfl,rfl,rfl,rfl,aB⟩) ?_ ?_
   ·(try dsimp only);exact ⟨by omega,aas hj2 hnc (qN (by rw [bQ] at hI;omega)),fun b o h=>Cy b o (agI b o (qR b o h))⟩
   first|omega|(dsimp only;omega)
  clear H;intro ZK x ZX a w Cy hI H;dsimp only [lca,bJ] at H;refine eO ?_;refine (NM H 0 rfl ?_).1;clear H;intro a w H;dsimp only [List.eraseIdx_cons_succ,List.eraseIdx_cons_zero] at H;refine (XW (Lh:=[_,_,_,_]) _ H ?_).1;clear H;intro a w H;dsimp only [lca,bJ] at H;refine (leave1 H results119 (.cons (Sj jv H rfl (H.hp.wS 3 rfl rfl)) .nil) ?_).1
  exact O7
 intro h64 a H
 try have p64:=dF h64
 refine dP ?_;refine kN _ _ ?_;clear kN;refine cO (fun _ uE=>?_);refine bC jv 0 (vs:=[_]) H wn rfl ?_;clear H;intro w H;refine uE _ _ ?_;clear uE;refine eO ?_;refine (XW (Lh:=[_,_]) _ H ?_).1;clear H;intro a w H;dsimp only [lca,bJ] at H;refine (leave1 H results119 (.cons (Sj jv H rfl (H.hp.wS 0 rfl rfl)) .nil) ?_).1
 exact O7
theorem zo:Ty prog 34 1 24 [.slice none 0 0] false:=⟨by kernel_rfl,by kernel_rfl⟩
theorem wX:prog.underlying 34=some (.slice 110):=by kernel_rfl
theorem Bz:Ty prog 110 2 32 [.string ⟨#[]⟩,.string ⟨#[]⟩] true:=⟨by kernel_rfl,by kernel_rfl⟩
theorem JQ:dH prog 110 0 0:=⟨by kernel_rfl⟩
theorem aeE:aQ 192:=aR func192 rfl
theorem afj:dH prog 110 1 1:=⟨by kernel_rfl⟩
theorem JV:dH prog 36 0 0:=⟨by kernel_rfl⟩
theorem aow:aQ 119:=aR func119 rfl
theorem JW:dH prog 36 1 1:=⟨by kernel_rfl⟩
theorem aox:aQ 120:=aR func120 rfl
theorem VK:dH prog 36 2 2:=⟨by kernel_rfl⟩
theorem aoy:aQ 121:=aR func121 rfl
theorem VL:dH prog 36 3 3:=⟨by kernel_rfl⟩
theorem aoz:aQ 122:=aR func122 rfl
theorem apw:aQ 191:=aR func191 rfl
theorem akr {G:GH} {l:List mZ} {A:Option Addr} {n c k:Nat} (hv:au G (.sl 2 (l.map mZ.dat)) (.slice A n c)) (hk:k < l.length):∃ b o,A=some ⟨b,o,none⟩∧(∀ j u,l[k].cells[j]?=some u->aH G b (o+k*2+j)=some u):=by
 obtain ⟨A',c',he,_,_,hg⟩:=hv.slice
 injection he with e1 e2 e3
 subst e1;obtain ⟨b,o,cs,h1,h2,h3,h4⟩:=hg k l[k].dat (by simp [hk]);have:=aAZ h4;subst this;exact Gp
def akq (k:Nat) (x:mZ) (pn:ByteArray):Int:=dL [dz (!xI x.name) 13,dz (decide (0 < (k:Int)) && (x.name.toList == pn.toList)) 7,dz (decide (0 < (k:Int)) && Op.bytesLess x.name.toList pn.toList) 6,Eo x.value]
def LA (l:List mZ) (k:Nat):Int:=match l[k]? with|some x=>akq k x ((l[k - 1]?.map mZ.name).getD ⟨#[]⟩)|none=>0
theorem O8 {p:Prop} (h:p:=by
 exact fin H iJ (iK (by first|(rw [nT c0,LV];done)|(rw [qN c0,LX];done)))):p:=h
theorem Mh {p:Prop} (h:p:=by
 clear H;intro a H;exact aaD):p:=h
theorem acF {p:Prop} (h:p:=by
 refine gZ 4 8 rfl rfl fun _ a w G1 hG HT H fin=>?_;refine s_call aeE H wn rfl (adR _ _ H.ro x.name hte.1) rfl ?_;clear H;rintro v9 G9 a w ⟨rfl,-⟩ asG H;exact fin H asG (rfl)):p:=h
theorem acG {p:Prop} (h:p:=by
 refine gZ 48 52 rfl rfl fun _ a w G1 hG HT H fin=>?_;refine s_call aeD H wn rfl (ajR _ _ H.ro x.value hte.2) rfl ?_;clear H;rintro v53 G53 a w rfl WE H;exact fin H WE (rfl)):p:=h
theorem acH {p:Prop} (h:p:=by
 refine gZ 24 28 rfl rfl fun _ a w G1 hG HT H fin=>?_;refine s_call mO H wn rfl (mY _ _ H.ro _ 7) rfl ?_;clear H;rintro v29 LD a w ⟨rfl,-⟩ asb H;exact fin H asb (rfl)):p:=h
theorem acI {p:Prop} (h:p:=by
 refine gZ 42 46 rfl rfl fun _ a w G1 hG HT H fin=>?_;refine s_call mO H wn rfl (mY _ _ H.ro _ 6) rfl ?_;clear H;rintro v47 G47 a w ⟨rfl,-⟩ asq H;exact fin H asq (rfl)):p:=h
theorem acK {p:Prop} (h:p:=by
 refine gZ 6 10 rfl rfl fun _ a w G1 hG HT H fin=>?_;refine s_call mO H wn rfl (mY _ _ H.ro _ 13) rfl ?_;clear H;rintro v11 zq a w ⟨rfl,-⟩ sU H;exact aaN):p:=h
set_option maxHeartbeats 2000000 in
theorem aAY {G:GH} {bl:Nat} {l:List mZ} {A:Option Addr} {n c:Nat} (hb:aH G bl 0=some (.slice A n c)) (hv:au G (.sl 2 (l.map mZ.dat)) (.slice A n c)) (hl:l.length<=4294967296) (ht:∀ x∈l,x.name.size < 4611686018427387904∧x.value.size < 4611686018427387904):vB (.func (.func 191) #[] #[(aJ bl 0)]) G l.length (LA l):=by
 intro k hk G1 w0 hm hG;refine jJ (caps:=[(aJ bl 0)]) apw ?_;replace hb:=aF hm hb;replace hv:=hv.mono hm
 obtain rfl:n=l.length:=by have:=hv.len;simpa using this
 obtain ⟨b,o,rfl,hrow⟩:=akr hv hk
 have hk1:k - 1 < l.length:=by omega
 obtain ⟨b',o',he',hrow'⟩:=akr hv hk1
 injection he' with he'
 injection he' with e1 e2
 subst e1;subst e2;have hte:=ht _ (jB hk)
 have he:LA l k=akq k l[k] l[k - 1].name:=by unfold LA;rw [dV hk,dV hk1];rfl
 obtain ⟨x,hx⟩:∃ x,x=l[k]:=⟨_,rfl⟩;obtain ⟨y,hy⟩:∃ y,y=l[k - 1]:=⟨_,rfl⟩;rw [<- hx] at hrow hte he;rw [<- hy] at hrow' he;refine eN [(0,_),(1,_)] func191 rfl ntmps191 rfl rfl hG ?_;intro a H;refine kP H (SR fun _ K1=>aj K1 rfl (SQ fun _ K2=>?_));clear H K1;intro a H;have H:=H.sub (T':=[(0,_),(1,_)]) ⟨rfl,rfl,aB⟩
 by_cases c0:0 < (k:Int)
 ·skip;refine dI hmx [[],[],[0,1],[0,1,2],ra 0 4,ra 0 5,ra 0 6,ra 0 7,[],[8],ra 0 10,ra 0 11,ra 0 11,ra 0 13,ra 0 14,ra 0 15,ra 0 11,ra 0 11,(ra 0 11++[17]),(ra 0 11++[17,18]),(ra 0 11++ra 16 4),(ra 0 11++ra 16 5),(ra 0 11++ra 16 6),ra 0 23,ra 0 24,ra 0 25,[],[26],ra 0 28,ra 0 29,ra 0 29,ra 0 31,ra 0 32,ra 0 33,ra 0 29,ra 0 29,(ra 0 29++[35]),(ra 0 29++[35,36]),(ra 0 29++ra 34 4),(ra 0 29++ra 34 5),(ra 0 29++ra 34 6),ra 0 41,ra 0 42,ra 0 43,[],[],[44,45],[44,45,46],ra 44 4,ra 0 49,ra 0 50,ra 0 51,ra 0 52] [50,51,52] (by kernel_rfl) [_,_,_,_,_,.bool (xI x.name),_,vi (dz (!xI x.name) 13),_,_,_,_,_,_,_,_,_,_,vi ((max k 1:Nat):Int),vi ((k - 1:Nat):Int),_,_,_,.bool (x.name.toList == y.name.toList),.bool (decide (0 < (k:Int)) && (x.name.toList == y.name.toList)),vi (dz (decide (0 < (k:Int)) && (x.name.toList == y.name.toList)) 7),_,_,_,_,_,_,_,_,_,_,vi ((max k 1:Nat):Int),vi ((k - 1:Nat):Int),_,_,_,.bool (Op.bytesLess x.name.toList y.name.toList),.bool (decide (0 < (k:Int)) && Op.bytesLess x.name.toList y.name.toList),vi (dz (decide (0 < (k:Int)) && Op.bytesLess x.name.toList y.name.toList) 6),_,_,_,_,_,vi (Eo x.value)] H (ay (X0 rfl fun hG=>Rg zo rfl (aF hG hb)) (Z0 rfl (Rm rfl)) (Z2 0 4 1 5 rfl (Ri wX Bz rfl rfl)) (Z1 2 6 rfl (Rf JQ rfl)) (ay (X1 3 7 rfl fun hG=>Rg jg rfl (aF hG (hrow 0 _ rfl))) ?_ (Z1 5 9 rfl (Rn rfl)) ?_ (ay (Z0 rfl (Rm rfl)) (Z1 8 12 rfl (Rc rfl)) (Z1 9 13 rfl (Rm rfl)) (X1 10 14 rfl fun hG=>YR zo (aI c0) rfl (aF hG hb)) (ay (Z1 10 14 rfl (YM (aI c0) rfl)) (Z3 11 15 12 16 10 14 rfl (YI wX Bz (aI c0) rfl rfl)) (Z2 13 17 10 14 rfl (YF JQ (aI c0) rfl)) (X2 14 18 10 14 rfl fun hG=>YR jg (aI c0) rfl (aF hG (hrow 0 _ rfl))) (ay (X1 10 14 rfl fun hG=>YR zo (aI c0) rfl (aF hG hb)) (Z1 10 14 rfl (YM (aI c0) rfl)) ?_ ?_ (ay (Z3 16 20 19 23 10 14 rfl (YI wX Bz (aI c0) rfl rfl)) (Z2 20 24 10 14 rfl (YF JQ (aI c0) rfl)) (X2 21 25 10 14 rfl fun hG=>YR jg (aI c0) rfl (aF hG (hrow' 0 _ rfl))) ?_ (ay ?_ ?_ (Z0 rfl (Rm rfl)) (Z1 26 30 rfl (Rc rfl)) (ay (Z1 27 31 rfl (Rm rfl)) (X1 28 32 rfl fun hG=>YR zo (aI c0) rfl (aF hG hb)) (Z1 28 32 rfl (YM (aI c0) rfl)) (Z3 29 33 30 34 28 32 rfl (YI wX Bz (aI c0) rfl rfl)) (ay (Z2 31 35 28 32 rfl (YF JQ (aI c0) rfl)) (X2 32 36 28 32 rfl fun hG=>YR jg (aI c0) rfl (aF hG (hrow 0 _ rfl))) (X1 28 32 rfl fun hG=>YR zo (aI c0) rfl (aF hG hb)) (Z1 28 32 rfl (YM (aI c0) rfl)) (ay ?_ ?_ (Z3 34 38 37 41 28 32 rfl (YI wX Bz (aI c0) rfl rfl)) (Z2 38 42 28 32 rfl (YF JQ (aI c0) rfl)) (ay (X2 39 43 28 32 rfl fun hG=>YR jg (aI c0) rfl (aF hG (hrow' 0 _ rfl))) ?_ ?_ ?_ (ay (X0 rfl fun hG=>Rg zo rfl (aF hG hb)) (Z0 rfl (Rm rfl)) (Z2 44 48 45 49 rfl (Ri wX Bz rfl rfl)) (Z1 46 50 rfl (Rf afj rfl)) (ay (X1 47 51 rfl fun hG=>Rg jg rfl (aF hG (hrow 1 _ rfl))) ?_ (bR rfl) (bR rfl) (bF (bR rfl) cK)))))))))))))) ?_
  ·exact acF
  ·exact acK
  ·refine dY 17 21 10 14 rfl rfl fun _ a w G1 hG HT H fin=>?_;refine Sm H (wg H rfl rfl (aI c0)) rfl rfl rfl ?_;exact Mh
  ·refine dY 18 22 10 14 rfl rfl fun _ a w G1 hG HT H fin=>?_;exact zG
  ·refine vZ 15 19 22 26 10 14 rfl rfl fun _ a w G1 hG HT H fin=>?_;refine FB H (wg H rfl rfl (aI c0)) rfl rfl rfl ?_;exact jk
  ·refine dY 10 14 23 27 rfl rfl fun _ a w G1 hG HT H fin=>?_;refine kH H (Pt (aI c0) rfl ?_);clear H;intro a H;exact O8
  ·exact acH
  ·refine dY 35 39 28 32 rfl rfl fun _ a w G1 hG HT H fin=>?_;refine Sm H (wg H rfl rfl (aI c0)) rfl rfl rfl ?_;exact Mh
  ·refine dY 36 40 28 32 rfl rfl fun _ a w G1 hG HT H fin=>?_;exact zG
  ·refine vZ 33 37 40 44 28 32 rfl rfl fun _ a w G1 hG HT H fin=>?_;refine azj H (wg H rfl rfl (aI c0)) rfl rfl rfl ?_;exact jk
  ·refine dY 28 32 41 45 rfl rfl fun _ a w G1 hG HT H fin=>?_;refine kH H (Pt (aI c0) rfl ?_);clear H;intro a H;exact O8
  ·exact acI
  ·exact acG
  clear H;intro a w G nJ H hv;have H:=H.aM (hv 7 11 rfl rfl) rfl;have H:=H.aM (hv 25 29 rfl rfl) rfl;have H:=H.aM (hv 43 47 rfl rfl) rfl;have H:=H.aM (hv 49 53 rfl rfl) rfl;clear hv;refine iT rP jv [_,_,_,_] [_,_,_,_] H wn rfl rfl rfl rfl rfl (by intro i q h;match i,h with|0,h=>exact h|1,h=>exact h|2,h=>exact h|3,h=>exact h|n+4,h=>simp at h) rfl rfl ?_;clear H;intro Ch a w agm H;obtain ⟨G54,atV,WK,H⟩:=H.fB;refine s_call sO H wn rfl (sQ _ _ H.ro _ _ (Io [dz (!xI x.name) 13,dz (decide (0 < (k:Int)) && (x.name.toList == y.name.toList)) 7,dz (decide (0 < (k:Int)) && Op.bytesLess x.name.toList y.name.toList) 6,Eo x.value] WK (show 4<=maxLen by decide))) rfl ?_;clear H;rintro v55 _ a w ⟨rfl,rfl⟩ - H;refine kH H (Ra rfl ?_);clear H;intro a H;refine aD ⟨rfl,?_⟩;refine K2 _ _ ?_;clear K2;refine lr H results191 rfl ?_;exact H.rt (by rw [he];rfl)
 skip;refine dI hmx [[],[],[0,1],[0,1,2],ra 0 4,ra 0 5,ra 0 6,ra 0 7,[],[8],ra 0 10,ra 0 11,ra 0 11,ra 0 13,ra 0 14,ra 0 15,ra 0 11,ra 0 11,(ra 0 11++[17]),(ra 0 11++[17,18]),(ra 0 11++ra 16 4),(ra 0 11++ra 16 5),(ra 0 11++ra 16 6),ra 0 23,ra 0 24,ra 0 25,[],[26],ra 0 28,ra 0 29,ra 0 29,ra 0 31,ra 0 32,ra 0 33,ra 0 29,ra 0 29,(ra 0 29++[35]),(ra 0 29++[35,36]),(ra 0 29++ra 34 4),(ra 0 29++ra 34 5),(ra 0 29++ra 34 6),ra 0 41,ra 0 42,ra 0 43,[],[],[44,45],[44,45,46],ra 44 4,ra 0 49,ra 0 50,ra 0 51,ra 0 52] [50,51,52] (by kernel_rfl) [_,_,_,_,_,.bool (xI x.name),_,vi (dz (!xI x.name) 13),_,_,_,undef,undef,undef,undef,undef,undef,undef,undef,undef,undef,undef,undef,undef,.bool (decide (0 < (k:Int)) && (x.name.toList == y.name.toList)),vi (dz (decide (0 < (k:Int)) && (x.name.toList == y.name.toList)) 7),_,_,_,undef,undef,undef,undef,undef,undef,undef,undef,undef,undef,undef,undef,undef,.bool (decide (0 < (k:Int)) && Op.bytesLess x.name.toList y.name.toList),vi (dz (decide (0 < (k:Int)) && Op.bytesLess x.name.toList y.name.toList) 6),_,_,_,_,_,vi (Eo x.value)] H (ay (X0 rfl fun hG=>Rg zo rfl (aF hG hb)) (Z0 rfl (Rm rfl)) (Z2 0 4 1 5 rfl (Ri wX Bz rfl rfl)) (Z1 2 6 rfl (Rf JQ rfl)) (ay (X1 3 7 rfl fun hG=>Rg jg rfl (aF hG (hrow 0 _ rfl))) ?_ (Z1 5 9 rfl (Rn rfl)) ?_ (ay (Z0 rfl (Rm rfl)) (Z1 8 12 rfl (Rc rfl)) (Z1 9 13 rfl (Rm rfl)) (aU 10 (aT c0) rfl rfl) (ay (aU 10 (aT c0) rfl rfl) (aU 10 (aT c0) rfl rfl) (aU 10 (aT c0) rfl rfl) (aU 10 (aT c0) rfl rfl) (ay (aU 10 (aT c0) rfl rfl) (aU 10 (aT c0) rfl rfl) (aU 10 (aT c0) rfl rfl) (aU 10 (aT c0) rfl rfl) (ay (aU 10 (aT c0) rfl rfl) (aU 10 (aT c0) rfl rfl) (aU 10 (aT c0) rfl rfl) (aU 10 (aT c0) rfl rfl) (ay ?_ ?_ (Z0 rfl (Rm rfl)) (Z1 26 30 rfl (Rc rfl)) (ay (Z1 27 31 rfl (Rm rfl)) (aU 28 (aT c0) rfl rfl) (aU 28 (aT c0) rfl rfl) (aU 28 (aT c0) rfl rfl) (ay (aU 28 (aT c0) rfl rfl) (aU 28 (aT c0) rfl rfl) (aU 28 (aT c0) rfl rfl) (aU 28 (aT c0) rfl rfl) (ay (aU 28 (aT c0) rfl rfl) (aU 28 (aT c0) rfl rfl) (aU 28 (aT c0) rfl rfl) (aU 28 (aT c0) rfl rfl) (ay (aU 28 (aT c0) rfl rfl) (aU 28 (aT c0) rfl rfl) ?_ ?_ (ay (X0 rfl fun hG=>Rg zo rfl (aF hG hb)) (Z0 rfl (Rm rfl)) (Z2 44 48 45 49 rfl (Ri wX Bz rfl rfl)) (Z1 46 50 rfl (Rf afj rfl)) (ay (X1 47 51 rfl fun hG=>Rg jg rfl (aF hG (hrow 1 _ rfl))) ?_ (bR rfl) (bR rfl) (bF (bR rfl) cK)))))))))))))) ?_
 ·exact acF
 ·exact acK
 ·refine dY 10 14 23 27 rfl rfl fun _ a w G1 hG HT H fin=>?_;refine kH H (Pf (aT c0) rfl ?_);clear H;intro a H;exact O8
 ·exact acH
 ·refine dY 28 32 41 45 rfl rfl fun _ a w G1 hG HT H fin=>?_;refine kH H (Pf (aT c0) rfl ?_);clear H;intro a H;exact O8
 ·exact acI
 ·exact acG
 clear H;intro a w G nJ H hv;have H:=H.aM (hv 7 11 rfl rfl) rfl;have H:=H.aM (hv 25 29 rfl rfl) rfl;have H:=H.aM (hv 43 47 rfl rfl) rfl;have H:=H.aM (hv 49 53 rfl rfl) rfl;clear hv;refine iT rP jv [_,_,_,_] [_,_,_,_] H wn rfl rfl rfl rfl rfl (by intro i q h;match i,h with|0,h=>exact h|1,h=>exact h|2,h=>exact h|3,h=>exact h|n+4,h=>simp at h) rfl rfl ?_;clear H;intro Ch a w agm H;obtain ⟨G54,atV,WK,H⟩:=H.fB;refine s_call sO H wn rfl (sQ _ _ H.ro _ _ (Io [dz (!xI x.name) 13,dz (decide (0 < (k:Int)) && (x.name.toList == y.name.toList)) 7,dz (decide (0 < (k:Int)) && Op.bytesLess x.name.toList y.name.toList) 6,Eo x.value] WK (show 4<=maxLen by decide))) rfl ?_;clear H;rintro v55 _ a w ⟨rfl,rfl⟩ - H;refine kH H (Ra rfl ?_);clear H;intro a H;refine aD ⟨rfl,?_⟩;refine K2 _ _ ?_;clear K2;refine lr H results191 rfl ?_;exact H.rt (by rw [he];rfl)
def PD (l:List mZ):Int:=dL [dz (decide (128 < (l.length:Int))) 9,iU (LA l) (min l.length 128)]
theorem ana (G:GH) (w0:World) (hG:Hold G w0) (l:List mZ) (v:ah) (hv:au G (.sl 2 (l.map mZ.dat)) v) (hl:l.length<=4294967296) (ht:∀ x∈l,x.name.size < 4611686018427387904∧x.value.size < 4611686018427387904) :
  Calls prog 122 #[v] w0 (bK w0 G fun u G'=>u=vi (PD l)):=by
 obtain ⟨A,c,rfl,hc1,hc2,-⟩:=hv.slice;rw [bQ] at *;refine eN [(0,_)] func122 rfl ntmps122 rfl rfl hG ?_;intro a H;refine cO (fun _ K1=>?_);refine dW (cs:=[_]) H wn rfl rfl rfl ?_;clear H;intro b1 a w hb1 H;refine kH H (aj K1 rfl (SQ fun _ K2=>?_));clear H K1;intro a H;have H:=H.sub (T':=[(1,_)]) ⟨rfl,aB⟩;obtain ⟨Ga,hma,hb1',H⟩:=H.fB
 have hbl:aH Ga b1 0=some (.slice A l.length c):=by unfold aH;rw [hb1'];rfl
 have hcb:=aAY hbl (hv.mono hma) hl ht;refine dI hmx [[],[0],[0,1],[0,1,2],[],[4],[4,5],[],ra 0 8,ra 0 9,ra 0 10,ra 0 11] [9,10,11] (by kernel_rfl) [_,_,_,vi (dz (decide (128 < (l.length:Int))) 9),_,_,vi ((min l.length 128:Nat):Int),.func (.func 191) #[] #[(aJ b1 0)],vi (iU (LA l) (min l.length 128))] H (ay (X0 rfl fun hG=>Rg zo rfl (aF hG hbl)) (Z1 0 3 rfl (Rl wX rfl)) (Z1 1 4 rfl (Rc rfl)) ?_ (ay (X0 rfl fun hG=>Rg zo rfl (aF hG hbl)) (Z1 4 7 rfl (Rl wX rfl)) ?_ ?_ (ay ?_ (bR rfl) (bR rfl) (bR rfl) cK))) ?_
 ·exact Pj
 ·exact Pn
 ·exact Gx
 ·refine dY 6 9 7 10 rfl rfl fun _ a w G1 hG HT H fin=>?_;refine s_call JO H wn rfl (LY _ _ H.ro (min l.length 128) (LA l) _ (by omega) ((hcb.mono hG).le (Nat.min_le_left _ _))) rfl ?_;exact Mk
 clear H;intro a w G nJ H hv;have H:=H.aM (hv 3 6 rfl rfl) rfl;have H:=H.aM (hv 8 11 rfl rfl) rfl;clear hv;refine iT rP jv [_,_] [_,_] H wn rfl rfl rfl rfl rfl (by intro i q h;match i,h with|0,h=>exact h|1,h=>exact h|n+2,h=>simp at h) rfl rfl ?_;clear H;intro b12 a w Hy H;obtain ⟨BM,Cw,Hz,H⟩:=H.fB;refine s_call sO H wn rfl (sQ _ _ H.ro _ _ (Ac Hz)) rfl ?_;clear H;rintro v13 _ a w ⟨rfl,rfl⟩ - H;refine kH H (Ra rfl ?_);clear H;intro a H;refine aD ⟨rfl,?_⟩;refine K2 _ _ ?_;clear K2;refine lr H results122 rfl ?_;exact wz
structure BZ where
 styles:List bX
 lists:List fO
 comments:List jo
 vars:List mZ
structure Ap (G:GH) (s:BZ) (a b c d:ah):Prop where
 st:au G (.sl 6 (s.styles.map bX.dat)) a
 li:au G (.sl 2 (s.lists.map fO.dat)) b
 cm:au G (.sl 6 (s.comments.map jo.dat)) c
 va:au G (.sl 2 (s.vars.map mZ.dat)) d
structure TR (s:BZ):Prop where
 sn:∀ x∈s.styles,x.name.size<=4611686018427387904
 ln:s.lists.length<=4294967296
 lt:∀ x∈s.lists,∀ y∈x.levels,y.Bv.size < 4611686018427387904
 cn:s.comments.length<=4294967296
 ct:∀ x∈s.comments,x.author.size < 4611686018427387904∧x.text.size < 4611686018427387904
 vn:s.vars.length<=4294967296
 vt:∀ x∈s.vars,x.name.size < 4611686018427387904∧x.value.size < 4611686018427387904
 pl:∀ x∈s.styles,x.props.length<=4294967296
 ll:∀ x∈s.lists,x.levels.length<=4294967296
def Ms (s:BZ):Int:=dL [Av s.styles,Mr s.lists,Pz s.comments,PD s.vars]
theorem amZ (G:GH) (w0:World) (hG:Hold G w0) (s:BZ) (a b c d:ah) (hR:Ap G s a b c d) (hz:TR s) :
  Calls prog 67 #[.agg #[a,b,c,d]] w0 (bK w0 G fun u G'=>u=vi (Ms s)):=by
 obtain ⟨sA,sn,sc,rfl⟩:=hR.st.form;obtain ⟨lA,ln,lc,rfl⟩:=hR.li.form;obtain ⟨cA,cn,cc,rfl⟩:=hR.cm.form;obtain ⟨vA,vn,vc,rfl⟩:=hR.va.form;refine eN [(0,_)] func67 rfl ntmps67 rfl rfl hG ?_;intro a H;refine cO (fun _ K1=>?_);refine dW (cs:=[_,_,_,_]) H wn rfl rfl rfl ?_;clear H;intro b1 a w hb1 H;refine kH H (aj K1 rfl (SQ fun _ K2=>?_));clear H K1;intro a H;have H:=H.sub (T':=[(1,_)]) ⟨rfl,aB⟩;obtain ⟨Ga,hma,hb1',H⟩:=H.fB
 have hc0:aH Ga b1 0=some (.slice sA sn sc):=by unfold aH;rw [hb1'];rfl
 have hc1:aH Ga b1 1=some (.slice lA ln lc):=by unfold aH;rw [hb1'];rfl
 have hc2:aH Ga b1 2=some (.slice cA cn cc):=by unfold aH;rw [hb1'];rfl
 have hc3:aH Ga b1 3=some (.slice vA vn vc):=by unfold aH;rw [hb1'];rfl
 refine dI hmx [[],[0],[0,1],[],[3],ra 0 5,[],[6],ra 0 8,[],[9],ra 0 11,ra 0 12,ra 0 13,ra 0 14] [12,13,14] (by kernel_rfl) [_,_,vi (Av s.styles),_,_,vi (Mr s.lists),_,_,vi (Pz s.comments),_,_,vi (PD s.vars)] H (ay (Z0 rfl (Rf JV rfl)) (X1 0 3 rfl fun hG=>Rg tH rfl (aF hG hc0)) ?_ (Z0 rfl (Rf JW rfl)) (ay (X1 3 6 rfl fun hG=>Rg Da rfl (aF hG hc1)) ?_ (Z0 rfl (Rf VK rfl)) (X1 6 9 rfl fun hG=>Rg FJ rfl (aF hG hc2)) (ay ?_ (Z0 rfl (Rf VL rfl)) (X1 9 12 rfl fun hG=>Rg zo rfl (aF hG hc3)) ?_ (bF (bR rfl) (bF (bR rfl) (bF (bR rfl) cK)))))) ?_
 ·refine gZ 1 4 rfl rfl fun _ a w G1 hG HT H fin=>?_;refine s_call aow H wn rfl (anb _ _ H.ro s.styles _ ((hR.st.mono hma).mono hG) hz.sn) rfl ?_;clear H;rintro v5 G5 a w rfl lF H;exact fin H lF (rfl)
 ·refine gZ 4 7 rfl rfl fun _ a w G1 hG HT H fin=>?_;refine s_call aox H wn rfl (amX _ _ H.ro s.lists _ ((hR.li.mono hma).mono hG) hz.ln hz.lt) rfl ?_;clear H;rintro v8 G8 a w rfl rW H;exact fin H rW (rfl)
 ·refine gZ 7 10 rfl rfl fun _ a w G1 hG HT H fin=>?_;refine s_call aoy H wn rfl (amV _ _ H.ro s.comments _ ((hR.cm.mono hma).mono hG) hz.cn hz.ct) rfl ?_;exact Mk
 ·refine gZ 10 13 rfl rfl fun _ a w G1 hG HT H fin=>?_;refine s_call aoz H wn rfl (ana _ _ H.ro s.vars _ ((hR.va.mono hma).mono hG) hz.vn hz.vt) rfl ?_;clear H;rintro v14 Ew a w rfl Hr H;exact fin H Hr (rfl)
 clear H;intro a w G nJ H hv;have H:=H.aM (hv 2 5 rfl rfl) rfl;have H:=H.aM (hv 5 8 rfl rfl) rfl;have H:=H.aM (hv 8 11 rfl rfl) rfl;have H:=H.aM (hv 11 14 rfl rfl) rfl;clear hv;refine iT rP jv [_,_,_,_] [_,_,_,_] H wn rfl rfl rfl rfl rfl (by intro i q h;match i,h with|0,h=>exact h|1,h=>exact h|2,h=>exact h|3,h=>exact h|n+4,h=>simp at h) rfl rfl ?_;clear H;intro b15 a w agi H;obtain ⟨Ey,Cx,asS,H⟩:=H.fB;refine s_call sO H wn rfl (sQ _ _ H.ro _ _ (Io [Av s.styles,Mr s.lists,Pz s.comments,PD s.vars] asS (show 4<=maxLen by decide))) rfl ?_;clear H;rintro v16 _ a w ⟨rfl,rfl⟩ - H;refine kH H (Ra rfl ?_);clear H;intro a H;refine aD ⟨rfl,?_⟩;refine K2 _ _ ?_;clear K2;refine lr H results67 rfl ?_;exact wz
section
def jl:Nat->List (Int × ah)->List MapEntry
 | _,[]=>[]
 | i,(k,v) :: r=>⟨.int .i64 k,v,i⟩ :: jl (i+1) r
theorem aic (x:Int × ah):∀ (i:Nat) (l:List (Int × ah)),jl i (l++[x])=jl i l++[⟨.int .i64 x.1,x.2,i+l.length⟩]
 | _,[]=>rfl
 | i,k :: r=>by
  rw [oD,jl,aic x (i+1) r,jl,oD,kS,show i+1+r.length=i+(r.length+1) by omega]
def vU (x:Int):List (Int × ah)->Option ah
 | []=>none
 | (k,v) :: r=>if k=x then some v else vU x r
theorem KG {x:Int}:∀ {l:List (Int × ah)},x∉l.map (·.1)->vU x l=none
 | [],_=>rfl
 | (k,v) :: r,h=>by
  rw [vU,av (fun e=>h (by simp [e])),KG (fun hm=>h (gK _ hm))]
theorem VP (x:Int):∀ (i j:Nat) (l:List (Int × ah)),∃ an,Instr.findNow (.int .i64) (.int .i64 x) (jl i l) j=some an∧an.map (·.2)=vU x l
 | _,_,[]=>⟨none,rfl,rfl⟩
 | i,j,(k,v) :: r=>by
  obtain ⟨an,h1,h2⟩:=VP x (i+1) (j+1) r
  by_cases e:k=x
  ·subst e
   exact ⟨some (j,v),by simp only [jl,Instr.findNow,Instr.sameNow,aG,beq_self_eq_true],by rw [vU,aG rfl];rfl⟩
  ·have hb:(x == k)=false:=by simp;exact fun h=>e h.symm
   exact ⟨an,by simpa only [jl,Instr.findNow,Instr.sameNow,aG,hb] using h1,by rw [vU,av e];exact h2⟩
abbrev fD (l:List (Int × ah)):Obj:=.map (jl 0 l).toArray l.length
section
variable {N:Nat} {D:List Deferred} {w0:World} {F:Nat->Prop} {G0 G:GH} {L:OL} {T:List (Nat × ah)}
variable {r:Option Nat} {P:Program} {ops:Array Oper} {Q:Exit->Act->World->Prop} {rest:List Oper} {a:Act} {w:World}
variable {d:Nat} {ty:TypeId} {pos:String} {aN:Array Edge} {g:Option (Nat × Bool)}
theorem CX {t kt et:TypeId} {x y:Operand} {b:Nat} {l:List (Int × ah)} {ky:Int} {zv:ah} (hm:P.underlying t=some (.map kt et)) (hk:P.underlying kt=some (.int .i64)) (hz:(P.info? et).map (fun i=>i.zero)=some (some zv)) (H:St N D w0 F G0 G L T a w)
  (hw:Region.wanted ⟨some d,.lookup t x y false,ty,pos,aN,g⟩ (yielded ops a.tmps)=true) (hx:ev T x=some (.map (some b))) (hy:ev T y=some (.int .i64 ky)) (hb:w.heap[b]?=some (fD l)) (hd:Nat.blt d N=true)
  (k:∀ a',St N D w0 F G0 G L ((d,(vU ky l).getD zv) :: T) a' w->WL r P ops Q rest a' w):WL r P ops Q (⟨some d,.lookup t x y false,ty,pos,aN,g⟩ :: rest) a w:=by
 obtain ⟨an,hf,han⟩:=VP ky 0 0 l
 obtain ⟨inf,hi1,hi2⟩:=pF.1 hz
 refine fT (v:=(vU ky l).getD zv) (w':=w) hw rfl ?_ (k _ (H.put hd _ H.hp))
 have hkey:MapKept.IsKey (.int .i64) (.int .i64 ky):=by trivial
 have hf2:Instr.findNow (.int .i64) (.int .i64 ky) (jl 0 l).toArray.toList 0=some an:=by simpa using hf
 replace hb:w.heap[b]?=some (.map (jl 0 l).toArray l.length):=hb
 generalize (jl 0 l).toArray=es at hb hf2
 have h1:=MapKept.run_checkKey (P:=P) (w:=w) hk hkey es.isEmpty 9999
 have h2:=MapKept.run_findKey (P:=P) (w:=w) hk hf2
 rw [<- han]
 cases an with
 | none=>simp [execOp,Instr.lookup,H.ev hx,H.ev hy,dZ,nO hm,MapKept.run_getObj_map hb,h1,h2,Result.andThen,zeroValue,Fy hi1,hi2]
 | some q=>simp [execOp,Instr.lookup,H.ev hx,H.ev hy,dZ,nO hm,MapKept.run_getObj_map hb,h1,h2,Result.andThen]
theorem KV {t kt et:TypeId} {x y z:Operand} {b i:Nat} {l:List (Int × ah)} {ky:Int} {v:ah} (hm:P.underlying t=some (.map kt et)) (hk:P.underlying kt=some (.int .i64)) (H:St N D w0 F G0 G L T a w)
  (hw:Region.wanted ⟨none,.mapUpdate t x y z,ty,pos,aN,g⟩ (yielded ops a.tmps)=true) (hx:ev T x=some (.map (some b))) (hy:ev T y=some (.int .i64 ky)) (hzv:ev T z=some v) (hi:L[i]?=some (b,fD l)) (hn:vU ky l=none)
  (k:∀ w',St N D w0 F G0 G (L.set i (b,fD (l++[(ky,v)]))) T a w'->WL r P ops Q rest a w'):WL r P ops Q (⟨none,.mapUpdate t x y z,ty,pos,aN,g⟩ :: rest) a w:=by
 obtain ⟨an,hf,han⟩:=VP ky 0 0 l
 have hnone:an=none:=by
  rw [hn] at han
  cases an with
  | none=>rfl
  | some q=>cases han
 subst hnone
 refine aju (i:=i) hm hk H hw hx hy hzv hi (by trivial) (by simpa using hf) ?_
 intro w' H'
 have e:(jl 0 l).toArray.push ⟨.int .i64 ky,v,l.length⟩=(jl 0 (l++[(ky,v)])).toArray:=by
  rw [aic,List.push_toArray,gI]
 refine k w' ?_
 rw [e] at H'
 rw [fD,iw]
 exact H'
end
end
theorem yj:prog.underlying 131=some (.map 3 4):=by kernel_rfl
theorem qh:Ty prog 102 3 32 [.int .i64 0,.string ⟨#[]⟩,.int .i64 0] true:=⟨by kernel_rfl,by kernel_rfl⟩
theorem aAn:qK prog 133 [(0,1),(1,1),(2,1),(3,1),(4,1),(5,1)] [.map none,.map none,.map none,.map none,.map none,.int .i64 0]:=⟨by kernel_rfl,by kernel_rfl⟩
theorem MS:dH prog 38 3 7:=⟨by kernel_rfl⟩
theorem MN:dH prog 133 0 0:=⟨by kernel_rfl⟩
theorem Oa:Ty prog 130 1 8 [.map none] false:=⟨by kernel_rfl,by kernel_rfl⟩
theorem afk:dH prog 133 1 1:=⟨by kernel_rfl⟩
theorem rO:Ty prog 131 1 8 [.map none] false:=⟨by kernel_rfl,by kernel_rfl⟩
theorem EM:dH prog 38 2 6:=⟨by kernel_rfl⟩
theorem zm:Ty prog 30 1 24 [.slice none 0 0] false:=⟨by kernel_rfl,by kernel_rfl⟩
theorem qG:prog.underlying 30=some (.slice 102):=by kernel_rfl
theorem MO:dH prog 133 2 2:=⟨by kernel_rfl⟩
theorem VH:dH prog 102 0 0:=⟨by kernel_rfl⟩
structure bW where
 id:Int
 author:ByteArray
 time:Int
def bW.dat (x:bW):List Dat:=[li x.id,.lf (.string x.author),li x.time]
abbrev bW.cells (x:bW):List ah:=[vi x.id,.string x.author,vi x.time]
theorem YP {G:GH} {x:bW} {cs:List ah} (h:aY G x.dat cs):cs=x.cells:=by
 simp only [bW.dat,aY,au] at h
 exact abB
theorem YK {G:GH} {l:List bW} {A:Option Addr} {n c k:Nat} (hv:au G (.sl 3 (l.map bW.dat)) (.slice A n c)) (hk:k < l.length):∃ b o,A=some ⟨b,o,none⟩∧(∀ j u,l[k].cells[j]?=some u->aH G b (o+k*3+j)=some u):=by
 obtain ⟨A',c',he,_,_,hg⟩:=hv.slice
 injection he with e1 e2 e3
 subst e1;obtain ⟨b,o,cs,h1,h2,h3,h4⟩:=hg k l[k].dat (by simp [hk]);have:=YP h4;subst this;exact Gp
abbrev gV (b ms ml mr mb mu:Nat) (n:Int):Nat × Obj:=(b,.cells #[.map (some ms),.map (some ml),.map (some mr),.map (some mb),.map (some mu),vi n] 133 (0,0))
def Bn (l:List bX):List (Int × ah):=l.map fun s=>(s.id,vi s.kind)
def gu (l:List Int):List (Int × ah):=l.map fun k=>(k,.bool true)
structure xg (us:List Int) (G:GH) (st:List bX) (li:List fO) (rv:List bW) (ms ml mr mu:Nat):Prop where
 sty:G ms=some (fD (Bn st))
 nk:G ml=some (fD (gu (li.map fO.id)))
 rev:G mr=some (fD (gu (rv.map bW.id)))
 use:G mu=some (fD (gu us))
theorem xg.mono {us:List Int} {G G':GH} {st:List bX} {li:List fO} {rv:List bW} {ms ml mr mu:Nat} (h:xg us G st li rv ms ml mr mu) (hm:∀ b o,G b=some o->G' b=some o):xg us G' st li rv ms ml mr mu:=⟨hm _ _ h.sty,hm _ _ h.nk,hm _ _ h.rev,hm _ _ h.use⟩
structure Tk (G:GH) (st:List bX) (li:List fO) (rv:List bW) (ms ml mr:Nat):Prop where
 sty:G ms=some (fD (Bn st))
 nk:G ml=some (fD (gu (li.map fO.id)))
 rev:G mr=some (fD (gu (rv.map bW.id)))
theorem Tk.with {us:List Int} {G G':GH} {st:List bX} {li:List fO} {rv:List bW} {ms ml mr mu:Nat} (h:Tk G st li rv ms ml mr) (hm:∀ b o,G b=some o->G' b=some o) (hu:G' mu=some (fD (gu us))):xg us G' st li rv ms ml mr mu:=⟨hm _ _ h.sty,hm _ _ h.nk,hm _ _ h.rev,hu⟩
def Dg (l:List Int):Prop:=∀ (k:Nat) (h:k < l.length),l[k]∉l.take k
theorem awp {l:List bX} {k:Nat} (h:k < l.length):Bn (l.take (k+1))=Bn (l.take k)++[(l[k].id,vi l[k].kind)]:=by rw [Bn,kg h,kF];rfl
theorem ahZ {l:List Int} {k:Nat} (h:k < l.length):gu (l.take (k+1))=gu (l.take k)++[(l[k],.bool true)]:=by rw [gu,kg h,kF];rfl
theorem awo {l:List bX} {k:Nat} (f:Dg (l.map bX.id)) (h:k < l.length):vU l[k].id (Bn (l.take k))=none:=by
 refine KG ?_;have:=f k (by simpa using h)
 simpa [Bn,List.map_take,List.map_map,Function.comp_def] using this
theorem ahY {l:List Int} {k:Nat} (f:Dg l) (h:k < l.length):vU l[k] (gu (l.take k))=none:=by
 refine KG ?_;have:=f k h
 simpa [gu,List.map_map,Function.comp_def] using this
theorem Ma {p:Prop} (h:p:=by
 exact ⟨kE _,fun _ _ h=>h⟩):p:=h
theorem awN (G:GH) (w0:World) (hO:gH G [] w0) (D:jO) (st:List bX) (li:List fO) (rv:List bW) (hst:au G (.sl 6 (st.map bX.dat)) (cB D.s1)) (M9:au G (.sl 2 (li.map fO.dat)) (cB D.s2)) (qU:au G (.sl 3 (rv.map bW.dat)) (cB D.r))
  (f1:Dg (st.map bX.id)) (f2:Dg (li.map fO.id)) (f3:Dg (rv.map bW.id)) (z1:st.length<=4294967296) (z2:li.length<=4294967296) (z3:rv.length<=4294967296) :
  Calls prog 69 #[D.val] w0 (fU w0 G [] fun u G' L'=>∃ b ms ml mr mb mu,u=(aJ b 0)∧L'=[gV b ms ml mr mb mu 0,(mb,fD []),(mu,fD [])]∧Tk G' st li rv ms ml mr):=by
 obtain ⟨df,dp,dd,dy,⟨rA,rn,rc⟩,⟨sA,sn,sc⟩,⟨lA,ln,lc⟩,d3,d4,ins,mv⟩:=D;dsimp only at hst M9 qU
 obtain rfl:sn=st.length:=by have:=hst.len;simpa using this
 obtain rfl:ln=li.length:=by have:=M9.len;simpa using this
 obtain rfl:rn=rv.length:=by have:=qU.len;simpa using this
 have hml:maxLen=9223372036854775807:=rfl;refine jc (N:=64) (T:=[(0,_)]) func69 rfl ntmps69 rfl rfl hO ?_;intro a H;refine cO (fun _ K1=>?_);refine dW (cs:=[_,_,_,_,_,_,_,_,_,_,_]) H wn rfl rfl rfl ?_;clear H;intro b1 a w hb1 H;refine kH H (aj K1 rfl (SQ fun _ K2=>?_));clear H K1;intro a H;obtain ⟨Ga,hma,hb1',H⟩:=H.fB
 have hc7:aH Ga b1 7=some (.slice sA st.length sc):=by unfold aH;rw [hb1'];rfl
 have hc8:aH Ga b1 8=some (.slice lA li.length lc):=by unfold aH;rw [hb1'];rfl
 have hc6:aH Ga b1 6=some (.slice rA rv.length rc):=by unfold aH;rw [hb1'];rfl
 replace hst:=hst.mono hma;replace M9:=M9.mono hma;replace qU:=qU.mono hma;refine nH ?_;refine FD H wn rfl ?_;clear H;intro b10 a w agh H;refine FD H wn rfl ?_;clear H;intro b11 a w J6 H;refine FD H wn rfl ?_;clear H;intro b12 a w Hy H;refine FD H wn rfl ?_;clear H;intro b13 a w Qo H;refine FD H wn rfl ?_;clear H;intro b14 a w WI H;refine jD aAn [_,_,_,_,_,_] H wn rfl rfl rfl rfl ?_;clear H;intro a H;refine dW (cs:=[_,_,_,_,_,_]) H wn rfl rfl rfl ?_;clear H;intro b16 a w asT H;refine kH H (aX K2 rfl (SQ fun _ K3=>SR fun _ K4=>Rf MS rfl (Rf JV rfl (Rg tH rfl (by assumption) ?_))));clear H K2;intro a H;refine kH H (Rl mX rfl (Rm rfl (Kz K4 (SB ?_))));clear H K4;intro a H;skip;refine eX (ι:=Nat × GH) (Tc:=[(1,_),(3,_),(19,_),(20,_)]) (Lc:=[(_,_),(_,_),(_,_),(_,_),(_,_)]) (fun gh=>[(21,vi gh.1)]) (fun gh=>[(b10,fD (Bn (st.take gh.1)))]) (fun gh=>gh.2) (fun gh=>gh.1<=st.length∧(∀ b o,Ga b=some o->gh.2 b=some o)) (fun gh=>st.length - gh.1) ((0,Ga)) (by exact H.sub ⟨rfl,rfl,rfl,rfl,rfl,aB⟩) ?_ ?_
 ·exact Ma
 clear H;rintro ⟨k,g1⟩ a w hI H;dsimp only at hI H;obtain ⟨hk,Kk⟩:=hI;dsimp only [lca,bJ] at H;refine kP H (SR fun _ K5=>Rc rfl (Kz K5 (SQ fun _ K6=>Cd rfl ?_ ?_))) <;> clear H K5
 ·intro h22 a H
  try have oK:=dT h22
  have hk2:k < st.length:=by omega
  obtain ⟨xb,xo,pA,pc,rfl,hrow,-,-⟩:=Em (hst.mono Kk) hk2;have hnew:=awo f1 hk2;refine kP H (Kc K6 (SQ fun _ K7=>SB (SR fun _ K8=>Ri mX kZ rfl rfl ?_)));clear H K6;intro a H;refine bP kZ (cs:=_) H wn rfl rfl (fun j v hj=>H.hp.aH (hrow j v hj)) rfl ?_;clear H;intro a H;refine dO kZ H wn rfl ?_;clear H;intro b5 a w hb5 H;refine bC kZ 0 (vs:=[_,_,_,_,_,_]) H wn rfl ?_;clear H;intro w H;refine K8 _ _ ?_;clear K8;refine dI hmx [[],[0],[0,1],[0,1,2],[],[4],[],[6],ra 0 8] [8] (by kernel_rfl) [_,_,_,.map (some b10),_,vi st[k].id,_,vi st[k].kind] H (ay (Z0 rfl (Rm rfl)) (Z1 0 25 rfl (Rk rfl)) (Z1 1 26 rfl (Rf MN rfl)) (Z1 2 27 rfl (Ro Oa 1 rfl)) (ay (Z0 rfl (Rf xM rfl)) (Z1 4 29 rfl (Ro aC 0 rfl)) (Z0 rfl (Rf zL rfl)) (Z1 6 31 rfl (Ro aC 0 rfl)) (bF (bR rfl) cK))) ?_
  clear H;intro a w G lF H hv;have H:=H.aM (hv 3 28 rfl rfl) rfl;have H:=H.aM (hv 5 30 rfl rfl) rfl;have H:=H.aM (hv 7 32 rfl rfl) rfl;clear hv;refine KV (i:=6) IW mh H wn rfl rfl rfl rfl hnew ?_;clear H;intro w H;dsimp only [List.set,List.append,lca,bJ] at H;rw [<- awp hk2] at H;refine aD ⟨rfl,?_⟩;refine K7 _ _ ?_;clear K7;refine kP H (SC (Rd rfl (Rm rfl ?_)));clear H;intro a H;refine aD ?_;refine dG ((k+1,G)) (by exact (H.eD (Pl:=[_,_,_,_,_,_,_]) (dN:=[_,_,_,_,_,_]) [1,2,3,4,5,6] (by decide) rfl).sub ⟨rfl,rfl,rfl,rfl,rfl,aB⟩) ?_
  (try dsimp only);exact ⟨by omega,fun b o h=>lF b o (Kk b o h)⟩
 intro h22 a H
 try have oK:=dF h22
 obtain rfl:k=st.length:=by omega
 rw [zC] at H;have aB8:=aF Kk hc8;refine dP ?_;refine K3 _ _ ?_;clear K3;refine kP H (SQ fun _ K9=>SR fun _ aW=>Rf MS rfl (Rf JW rfl (Rg Da rfl (by assumption) ?_)));clear H;intro a H;refine kH H (Rl yu rfl (Rm rfl (Kz aW (SB ?_))));clear H aW;intro a H;skip;refine eX (ι:=Nat × GH) (Tc:=[(1,_),(3,_),(36,_),(37,_)]) (Lc:=[(_,_),(_,_),(_,_),(_,_),(_,_)]) (fun gh=>[(38,vi gh.1)]) (fun gh=>[(b11,fD (gu ((li.map fO.id).take gh.1)))]) (fun gh=>gh.2) (fun gh=>gh.1<=li.length∧(∀ b o,g1 b=some o->gh.2 b=some o)) (fun gh=>li.length - gh.1) ((0,g1)) (by exact (H.eD (Pl:=[_,_,_,_,_,_]) (dN:=[_,_,_,_,_,_]) [0,1,2,3,5,4] (by decide) rfl).sub ⟨rfl,rfl,rfl,rfl,rfl,aB⟩) ?_ ?_
 ·exact Ma
 clear H;rintro ⟨k,g2⟩ a w hI H;dsimp only at hI H;obtain ⟨hk,QD⟩:=hI;dsimp only [lca,bJ] at H;refine kP H (SR fun _ bM=>Rc rfl (Kz bM (SQ fun _ bU=>Cd rfl ?_ ?_))) <;> clear H bM
 ·intro jL a H
  try have p39:=dT jL
  have hk2:k < li.length:=by omega
  obtain ⟨xb,xo,B,d,rfl,hrow,-⟩:=X4 ((M9.mono Kk).mono QD) hk2
  have hk3:k < (li.map fO.id).length:=by simpa using hk2
  have hnew:=ahY f2 hk3
  have qQ:(li.map fO.id)[k]=li[k].id:=by simp
  rw [qQ] at hnew;refine kP H (Kc bU (SQ fun _ bY=>SB (SR fun _ cZ=>Ri yu BG rfl rfl ?_)));clear H bU;intro a H;refine bP BG (cs:=_) H wn rfl rfl (fun j v hj=>H.hp.aH (hrow j v hj)) rfl ?_;clear H;intro a H;refine dO BG H wn rfl ?_;clear H;intro b7 a w AZ H;refine bC BG 0 (vs:=[_,_]) H wn rfl ?_;clear H;intro w H;refine cZ _ _ ?_;clear cZ;refine dI hmx [[],[0],[0,1],[0,1,2],[],[4],ra 0 6] [6] (by kernel_rfl) [_,_,_,.map (some b11),_,vi li[k].id] H (ay (Z0 rfl (Rm rfl)) (Z1 0 42 rfl (Rk rfl)) (Z1 1 43 rfl (Rf afk rfl)) (Z1 2 44 rfl (Ro rO 1 rfl)) (bF (Z0 rfl (Rf afp rfl)) (bF (Z1 4 46 rfl (Ro aC 0 rfl)) (bF (bR rfl) cK)))) ?_
  clear H;intro a w G wK H hv;have H:=H.aM (hv 3 45 rfl rfl) rfl;have H:=H.aM (hv 5 47 rfl rfl) rfl;clear hv;refine KV (i:=6) yj mh H wn rfl rfl rfl rfl hnew ?_;clear H;intro w H;dsimp only [List.set,List.append,lca,bJ] at H;rw [<- qQ,<- ahZ hk3] at H;refine aD ⟨rfl,?_⟩;refine bY _ _ ?_;clear bY;refine kP H (SC (Rd rfl (Rm rfl ?_)));clear H;intro a H;refine aD ?_;refine dG ((k+1,G)) (by exact (H.eD (Pl:=[_,_,_,_,_,_,_]) (dN:=[_,_,_,_,_,_]) [1,2,3,4,5,6] (by decide) rfl).sub ⟨rfl,rfl,rfl,rfl,rfl,aB⟩) ?_
  (try dsimp only);exact ⟨by omega,fun b o h=>wK b o (QD b o h)⟩
 intro jL a H
 try have p39:=dF jL
 obtain rfl:k=li.length:=by omega
 rw [nU (by simp)] at H;have aB7:=aF QD (aF Kk hc6);refine dP ?_;refine K9 _ _ ?_;clear K9;refine kP H (SQ fun _ dQ=>SR fun _ dR=>Rf EM rfl (Rg zm rfl (by assumption) ?_));clear H;intro a H;refine kH H (Rl qG rfl (Rm rfl (Kz dR (SB ?_))));clear H dR;intro a H;skip;refine eX (ι:=Nat × GH) (Tc:=[(3,_),(50,_),(51,_)]) (Lc:=[(_,_),(_,_),(_,_),(_,_),(_,_)]) (fun gh=>[(52,vi gh.1)]) (fun gh=>[(b12,fD (gu ((rv.map bW.id).take gh.1)))]) (fun gh=>gh.2) (fun gh=>gh.1<=rv.length∧(∀ b o,g2 b=some o->gh.2 b=some o)) (fun gh=>rv.length - gh.1) ((0,g2)) (by exact (H.eD (Pl:=[_,_,_,_,_,_]) (dN:=[_,_,_,_,_,_]) [0,1,2,4,5,3] (by decide) rfl).sub ⟨rfl,rfl,rfl,rfl,aB⟩) ?_ ?_
 ·exact Ma
 clear H;rintro ⟨k,g3⟩ a w hI H;dsimp only at hI H;obtain ⟨hk,agK⟩:=hI;dsimp only [lca,bJ] at H;refine kP H (SR fun _ dK=>Rc rfl (Kz dK (SQ fun _ dX=>Cd rfl ?_ ?_))) <;> clear H dK
 ·intro DK a H
  try have p53:=dT DK
  have hk2:k < rv.length:=by omega
  obtain ⟨xb,xo,rfl,hrow⟩:=YK (((qU.mono Kk).mono QD).mono agK) hk2
  have hk3:k < (rv.map bW.id).length:=by simpa using hk2
  have hnew:=ahY f3 hk3
  have qQ:(rv.map bW.id)[k]=rv[k].id:=by simp
  rw [qQ] at hnew;refine kP H (Kc dX (SQ fun _ fM=>SB (SR fun _ eP=>Ri qG qh rfl rfl ?_)));clear H dX;intro a H;refine bP qh (cs:=_) H wn rfl rfl (fun j v hj=>H.hp.aH (hrow j v hj)) rfl ?_;clear H;intro a H;refine dO qh H wn rfl ?_;clear H;intro b9 a w Cu H;refine bC qh 0 (vs:=[_,_,_]) H wn rfl ?_;clear H;intro w H;refine eP _ _ ?_;clear eP;refine dI hmx [[],[0],[0,1],[0,1,2],[],[4],ra 0 6] [6] (by kernel_rfl) [_,_,_,.map (some b12),_,vi rv[k].id] H (ay (Z0 rfl (Rm rfl)) (Z1 0 56 rfl (Rk rfl)) (Z1 1 57 rfl (Rf MO rfl)) (Z1 2 58 rfl (Ro rO 1 rfl)) (bF (Z0 rfl (Rf VH rfl)) (bF (Z1 4 60 rfl (Ro aC 0 rfl)) (bF (bR rfl) cK)))) ?_
  clear H;intro a w G AV H hv;have H:=H.aM (hv 3 59 rfl rfl) rfl;have H:=H.aM (hv 5 61 rfl rfl) rfl;clear hv;refine KV (i:=6) yj mh H wn rfl rfl rfl rfl hnew ?_;clear H;intro w H;dsimp only [List.set,List.append,lca,bJ] at H;rw [<- qQ,<- ahZ hk3] at H;refine aD ⟨rfl,?_⟩;refine fM _ _ ?_;clear fM;refine kP H (SC (Rd rfl (Rm rfl ?_)));clear H;intro a H;refine aD ?_;refine dG ((k+1,G)) (by exact (H.eD (Pl:=[_,_,_,_,_,_,_]) (dN:=[_,_,_,_,_,_]) [1,2,3,4,5,6] (by decide) rfl).sub ⟨rfl,rfl,rfl,rfl,aB⟩) ?_
  (try dsimp only);exact ⟨by omega,fun b o h=>AV b o (agK b o h)⟩
 intro DK a H
 try have p53:=dF DK
 obtain rfl:k=rv.length:=by omega
 rw [nU (by simp)] at H;refine dP ?_;refine dQ _ _ ?_;clear dQ;refine kP H (SR fun _ gB=>Rm rfl (aj gB rfl ?_));clear H gB;intro a H;refine eO ?_;have H:=H.eD (Pl:=[_,_,_,_,_,_]) (dN:=[_,_,_,_,_,_]) [3,4,5,0,2,1] (by decide) rfl;obtain ⟨Gs,hms,hs,H⟩:=H.fB;obtain ⟨Gl,Xh,hl,H⟩:=H.fB;obtain ⟨Gr,hmr,hr,H⟩:=H.fB;refine lv H results69 rfl ?_;exact H.hp.fQ ⟨b16,b10,b11,b12,b13,b14,rfl,rfl,⟨hmr _ _ (Xh _ _ hs),hmr _ _ hl,hr⟩⟩
section
theorem arf:dH prog 133 4 4:=⟨by kernel_rfl⟩
theorem afl:dH prog 133 3 3:=⟨by kernel_rfl⟩
variable {us:List Int}
theorem Iu (x:Int):∀ l:List Int,(vU x (gu l)).getD (.bool false)=.bool (decide (x∈l))
 | []=>rfl
 | k :: r=>by
  have ih:=Iu x r;rw [gu,eZ,vU]
  by_cases e:k=x
  ·subst e;simp
  rw [av e,show (r.map fun k=>(k,Value.bool true))=gu r from rfl,ih]
  simp [show x≠k from fun h=>e h.symm]
def Sw (st:List bX) (v:Int):Int:=((st.find? fun s=>decide (s.id=v)).map bX.kind).getD 0
theorem NP (x:Int):∀ l:List bX,(vU x (Bn l)).getD (vi 0)=vi (Sw l x)
 | []=>rfl
 | s :: r=>by
  have ih:=NP x r;rw [Bn,eZ,vU]
  by_cases e:s.id=x
  ·subst e;simp [Sw]
  rw [av e,show (r.map fun s=>(s.id,vi s.kind))=Bn r from rfl,ih]
  simp [Sw,e]
def rJ (us bN:List Int) (x:Int):Int:=if ¬ (1<=x∧x<=1073741824)∨x∈us then 18 else if x∈bN then 7 else 0
def nK (us bN:List Int) (x:Int):List Int:=if rJ us bN x=0 then bN++[x] else bN
theorem awn (l:List Int) (x:Int):gu (l++[x])=gu l++[(x,.bool true)]:=by simp [gu]
theorem aaQ {p:Prop} (h:p:=by
 first
  | exact H.hp.fQ ⟨by rw [e],by rw [nK,aG e],rfl⟩
  | exact H.hp.fQ ⟨by rw [e],by rw [nK,av (by rw [e];decide)],rfl⟩):p:=h
theorem Us {p:Prop} (h:p:=by
 intro a H;refine lr H results198 rfl ?_
 exact aaQ):p:=h
theorem U9 (G:GH) (L:OL) (w0:World) (st:List bX) (li:List fO) (rv:List bW) (b ms ml mr mb mu:Nat) (n:Int) (bN:List Int) (x:Int) (hck:xg us G st li rv ms ml mr mu) (hO:gH G (gV b ms ml mr mb mu n :: (mb,fD (gu bN)) :: L) w0) :
  Calls prog 198 #[(aJ b 0),vi x] w0 (fU w0 G (gV b ms ml mr mb mu n :: (mb,fD (gu bN)) :: L) fun u G' L'=>u=vi (rJ us bN x)∧L'=gV b ms ml mr mb mu n :: (mb,fD (gu (nK us bN x))) :: L∧G=G'):=by
 refine jc (N:=29) (T:=[(0,_),(1,_)]) func198 rfl ntmps198 rfl rfl hO ?_;intro a H;refine kP H (SR fun _ K1=>aj K1 rfl (SQ fun _ K2=>SB (SR fun _ K3=>Rm rfl ?_)));clear H K1;intro a H;refine s_call yI H wn rfl (yY _ _ H.ro x 1 1073741824) rfl ?_;clear H;rintro v7 _ a w ⟨rfl,rfl⟩ - H;refine kH H (Rn rfl (Rm rfl (Sp 9 rfl ?_ ?_))) <;> clear H
 ·intro h9 a H
  try have p9:=dT h9
  refine kH H (bB h9 rfl (bB h9 rfl (Pt h9 rfl (aj K3 rfl (Ct rfl rfl (SQ fun _ K4=>?_))))));clear H K3;intro a H
  have e:rJ us bN x=18:=by rw [rJ,aG (by first|(simp_all;done)|(simp_all;omega))]
  refine kP H (SC (aX K4 rfl ?_));clear H K4;exact Us
 intro h9 a H
 try have p9:=dF h9
 refine kH H (YM h9 rfl ?_);clear H;intro a H;refine zk H (wg H rfl rfl h9) rfl rfl ?_;clear H;intro a H;refine kH H (YF arf h9 rfl (YO rO 0 h9 rfl (YM h9 rfl ?_)));clear H;intro a H;refine CX (zv:=.bool false) yj mh (by kernel_rfl) H (wg H rfl rfl h9) rfl rfl (H.ro _ _ hck.use) rfl ?_;clear H;intro a H;rw [Iu] at H;refine kH H (Pf h9 rfl (aj K3 rfl (Cd rfl ?_ ?_))) <;> clear H K3
 ·intro h5 a H
  try have p5:=dT h5
  refine bD (fun _ K5=>?_)
  have e:rJ us bN x=18:=by rw [rJ,aG (by first|(simp_all;done)|(simp_all;omega))]
  refine kP H (SC (aX K5 rfl ?_));clear H K5;exact Us
 intro h5 a H
 try have p5:=dF h5
 have hin:¬ (¬ (1<=x∧x<=1073741824)∨x∈us):=by first|(simp_all;done)|(simp_all;omega)
 refine kP H (SR fun _ K6=>Rm rfl (Rk rfl (bq afl rO 0 rfl rfl (Rm rfl ?_))));clear H;intro a H;refine CX (zv:=.bool false) yj mh (by kernel_rfl) H wn rfl rfl (H.hp.own _ (gK _ eT)) rfl ?_;clear H;intro a H;rw [Iu] at H;refine kH H (aj K6 rfl (Cd rfl ?_ ?_)) <;> clear H K6
 ·intro fE a H
  refine bD (fun _ K7=>?_)
  have e:rJ us bN x=7:=by rw [rJ,av hin,aG (pI fE)]
  refine kP H (SC (aX K7 rfl ?_));clear H K7;exact Us
 intro fE a H
 have hx:x∉bN:=of_decide_eq_false fE;have hnew:vU x (gu bN)=none:=KG (by simpa [gu,List.map_map,Function.comp_def] using hx)
 have e:rJ us bN x=0:=by rw [rJ,av hin,av hx]
 refine kP H (Kc K2 (SR fun _ K8=>Rm rfl (Rk rfl (bq afl rO 0 rfl rfl (Rm rfl ?_)))));clear H K2;intro a H;refine KV (i:=1) yj mh H wn rfl rfl rfl rfl hnew ?_;clear H;intro w H;dsimp only [List.set] at H;rw [<- awn] at H;refine K8 _ _ ?_;clear K8;refine kP H (SR fun _ K9=>aj K9 rfl ?_);clear H K9;intro a H;refine lr H results198 rfl ?_
 exact aaQ
def xX (st:List bX) (nk:List Int) (key v:Int):Int :=
 if key=20∨key=1 then dz (decide (v≠0∧Sw st v≠(if key=1 then 2 else 1))) 25 else if key=33 then dz (decide (v≠0∧v∉nk)) 26 else 0
theorem Mc {p:Prop} (h:p:=by
 exact H.rt ⟨dh vi (by unfold xX;(repeat' split) <;> first|rfl|(simp_all;done)|(exfalso;simp_all;done)|(congr 1;rw [Ce];simp only [Bool.not_eq_true',vE,qY];exact ⟨fun h=>⟨p31,h⟩,fun h=>h.2⟩)),rfl⟩):p:=h
theorem UF {p:Prop} (h:p:=by
 intro a H;refine lr H results130 rfl ?_
 exact Mc):p:=h
theorem Mi {p:Prop} (h:p:=by
 refine lr H results130 rfl ?_
 exact Mc):p:=h
theorem adA (G:GH) (w0:World) (hG:Hold G w0) (st:List bX) (li:List fO) (rv:List bW) (b ms ml mr mb mu:Nat) (n:Int) (key v:Int) (hck:xg us G st li rv ms ml mr mu) (hb:G b=some (gV b ms ml mr mb mu n).2) :
  Calls prog 130 #[(aJ b 0),vi key,vi v] w0 (bK w0 G fun u G'=>u=vi (xX st (li.map fO.id) key v)∧G=G'):=by
 have hc0:aH G b 0=some (.map (some ms)):=by unfold aH;rw [hb];rfl
 have hc1:aH G b 1=some (.map (some ml)):=by unfold aH;rw [hb];rfl
 refine eN [(0,_),(1,_),(2,_)] func130 rfl ntmps130 rfl rfl hG ?_;intro a H;refine kP H (SR fun _ K1=>aj K1 rfl (SQ fun _ K2=>SR fun _ K3=>Rm rfl (Kz K3 (SB (SQ fun _ K4=>SR fun _ K5=>Rc rfl (aj K5 rfl (Cd rfl ?_ ?_))))))) <;> clear H K1 K3 K5
 ·intro h9 a H
  try have p9:=dT h9
  refine kP H (Kc K4 (Ct rfl h9 (SR fun _ K6=>aj K6 rfl (SQ fun _ K7=>SR fun _ K8=>Rm rfl (Rc rfl (Kz K8 (Cd rfl ?_ ?_))))))) <;> clear H K4 K6 K8
  ·intro gQ a H
   try have sw:=dT gQ
   refine kP H (SC (aX K7 rfl (SR fun _ K9=>Rm rfl (Rc rfl (Rm rfl (Sp 16 rfl ?_ ?_)))))) <;> clear H K7
   ·intro h16 a H
    try have p16:=dT h16
    refine kH H (YM h16 rfl ?_);clear H;intro a H;refine zk H (wg H rfl rfl h16) rfl rfl ?_;clear H;intro a H;refine kH H (YF MN h16 rfl (YR Oa h16 rfl (by assumption) ?_));clear H;intro a H;refine kH H (YM h16 rfl ?_);clear H;intro a H;refine CX (zv:=vi 0) IW mh (by kernel_rfl) H (wg H rfl rfl h16) rfl rfl (H.ro _ _ hck.sty) rfl ?_;clear H;intro a H;rw [NP] at H;refine kH H (YM h16 rfl (YC h16 rfl (Pt h16 rfl ?_)));clear H;intro a H;refine s_call mO H wn rfl (mY _ _ H.ro _ 25) rfl ?_;clear H;rintro v26 _ a w ⟨rfl,rfl⟩ - H;refine kH H (aj K9 rfl ?_);clear H K9;intro a H;refine lr H results130 rfl ?_
    exact Mc
   intro h16 a H
   try have p16:=dF h16
   refine kH H (bB h16 rfl (bB h16 rfl (aP h16 rfl (Pf h16 rfl ?_))));clear H;intro a H;refine s_call mO H wn rfl (mY _ _ H.ro _ 25) rfl ?_;clear H;rintro v26 _ a w ⟨rfl,rfl⟩ - H;refine kH H (aj K9 rfl ?_);clear H K9;intro a H;exact Mi
  intro gQ a H
  try have sw:=dF gQ
  refine kP H (Kc K7 (SR fun _ aW=>Rm rfl (Rc rfl (Rm rfl (Sp 16 rfl ?_ ?_))))) <;> clear H K7
  ·intro h16 a H
   try have p16:=dT h16
   refine kH H (YM h16 rfl ?_);clear H;intro a H;refine zk H (wg H rfl rfl h16) rfl rfl ?_;clear H;intro a H;refine kH H (YF MN h16 rfl (YR Oa h16 rfl (by assumption) ?_));clear H;intro a H;refine kH H (YM h16 rfl ?_);clear H;intro a H;refine CX (zv:=vi 0) IW mh (by kernel_rfl) H (wg H rfl rfl h16) rfl rfl (H.ro _ _ hck.sty) rfl ?_;clear H;intro a H;rw [NP] at H;refine kH H (YM h16 rfl (YC h16 rfl (Pt h16 rfl ?_)));clear H;intro a H;refine s_call mO H wn rfl (mY _ _ H.ro _ 25) rfl ?_;clear H;rintro v26 _ a w ⟨rfl,rfl⟩ - H;refine kH H (aj aW rfl ?_);clear H aW;intro a H;exact Mi
  intro h16 a H
  try have p16:=dF h16
  refine kH H (bB h16 rfl (bB h16 rfl (aP h16 rfl (Pf h16 rfl ?_))));clear H;intro a H;refine s_call mO H wn rfl (mY _ _ H.ro _ 25) rfl ?_;clear H;rintro v26 _ a w ⟨rfl,rfl⟩ - H;refine kH H (aj aW rfl ?_);clear H aW;exact UF
 intro h9 a H
 try have p9:=dF h9
 refine kP H (SC (Rc rfl (aX K4 rfl (Cd rfl ?_ ?_)))) <;> clear H K4
 ·intro h9 a H
  try have p9:=dT h9
  refine kP H (SR fun _ bM=>aj bM rfl (SQ fun _ bU=>SR fun _ bY=>Rm rfl (Rc rfl (Kz bY (Cd rfl ?_ ?_))))) <;> clear H bM bY
  ·intro gQ a H
   try have sw:=dT gQ
   refine kP H (SC (aX bU rfl (SR fun _ cZ=>Rm rfl (Rc rfl (Rm rfl (Sp 16 rfl ?_ ?_)))))) <;> clear H bU
   ·intro h16 a H
    try have p16:=dT h16
    refine kH H (YM h16 rfl ?_);clear H;intro a H;refine zk H (wg H rfl rfl h16) rfl rfl ?_;clear H;intro a H;refine kH H (YF MN h16 rfl (YR Oa h16 rfl (by assumption) ?_));clear H;intro a H;refine kH H (YM h16 rfl ?_);clear H;intro a H;refine CX (zv:=vi 0) IW mh (by kernel_rfl) H (wg H rfl rfl h16) rfl rfl (H.ro _ _ hck.sty) rfl ?_;clear H;intro a H;rw [NP] at H;refine kH H (YM h16 rfl (YC h16 rfl (Pt h16 rfl ?_)));clear H;intro a H;refine s_call mO H wn rfl (mY _ _ H.ro _ 25) rfl ?_;clear H;rintro v26 _ a w ⟨rfl,rfl⟩ - H;refine kH H (aj cZ rfl ?_);clear H cZ;intro a H;refine lr H results130 rfl ?_
    exact Mc
   intro h16 a H
   try have p16:=dF h16
   refine kH H (bB h16 rfl (bB h16 rfl (aP h16 rfl (Pf h16 rfl ?_))));clear H;intro a H;refine s_call mO H wn rfl (mY _ _ H.ro _ 25) rfl ?_;clear H;rintro v26 _ a w ⟨rfl,rfl⟩ - H;refine kH H (aj cZ rfl ?_);clear H cZ;intro a H;exact Mi
  intro gQ a H
  try have sw:=dF gQ
  refine kP H (Kc bU (SR fun _ dQ=>Rm rfl (Rc rfl (Rm rfl (Sp 16 rfl ?_ ?_))))) <;> clear H bU
  ·intro h16 a H
   try have p16:=dT h16
   refine kH H (YM h16 rfl ?_);clear H;intro a H;refine zk H (wg H rfl rfl h16) rfl rfl ?_;clear H;intro a H;refine kH H (YF MN h16 rfl (YR Oa h16 rfl (by assumption) ?_));clear H;intro a H;refine kH H (YM h16 rfl ?_);clear H;intro a H;refine CX (zv:=vi 0) IW mh (by kernel_rfl) H (wg H rfl rfl h16) rfl rfl (H.ro _ _ hck.sty) rfl ?_;clear H;intro a H;rw [NP] at H;refine kH H (YM h16 rfl (YC h16 rfl (Pt h16 rfl ?_)));clear H;intro a H;refine s_call mO H wn rfl (mY _ _ H.ro _ 25) rfl ?_;clear H;rintro v26 _ a w ⟨rfl,rfl⟩ - H;refine kH H (aj dQ rfl ?_);clear H dQ;intro a H;exact Mi
  intro h16 a H
  try have p16:=dF h16
  refine kH H (bB h16 rfl (bB h16 rfl (aP h16 rfl (Pf h16 rfl ?_))));clear H;intro a H;refine s_call mO H wn rfl (mY _ _ H.ro _ 25) rfl ?_;clear H;rintro v26 _ a w ⟨rfl,rfl⟩ - H;refine kH H (aj dQ rfl ?_);clear H dQ;exact UF
 intro h9 a H
 try have p9:=dF h9
 refine kP H (SR fun _ dR=>Rc rfl (aj dR rfl (Cd rfl ?_ ?_))) <;> clear H dR
 ·intro h27 a H
  try have p27:=dT h27
  refine kP H (SR fun _ dK=>Rm rfl (Rc rfl (Rm rfl (Sp 31 rfl ?_ ?_)))) <;> clear H
  ·intro h31 a H
   try have p31:=dT h31
   refine kH H (YM h31 rfl ?_);clear H;intro a H;refine zk H (wg H rfl rfl h31) rfl rfl ?_;clear H;intro a H;refine kH H (YF afk h31 rfl (YR rO h31 rfl (by assumption) ?_));clear H;intro a H;refine kH H (YM h31 rfl ?_);clear H;intro a H;refine CX (zv:=.bool false) yj mh (by kernel_rfl) H (wg H rfl rfl h31) rfl rfl (H.ro _ _ hck.nk) rfl ?_;clear H;intro a H;rw [Iu] at H;refine kH H (YN h31 rfl (Pt h31 rfl ?_));clear H;intro a H;refine s_call mO H wn rfl (mY _ _ H.ro _ 26) rfl ?_;clear H;rintro v40 _ a w ⟨rfl,rfl⟩ - H;refine kH H (aj dK rfl ?_);clear H dK;intro a H;exact Mi
  intro h31 a H
  try have p31:=dF h31
  refine kH H (bB h31 rfl (aP h31 rfl (aP h31 rfl (Pf h31 rfl ?_))));clear H;intro a H;refine s_call mO H wn rfl (mY _ _ H.ro _ 26) rfl ?_;clear H;rintro v40 _ a w ⟨rfl,rfl⟩ - H;refine kH H (aj dK rfl ?_);clear H dK;exact UF
 intro h27 a H
 try have p27:=dF h27
 refine kP H (Kc K2 (SR fun _ dX=>aj dX rfl ?_));clear H K2 dX;intro a H;refine lr H results130 rfl ?_
 exact Mc
end
end Go.Proofs.YtdiflmikikiedaaGreat
