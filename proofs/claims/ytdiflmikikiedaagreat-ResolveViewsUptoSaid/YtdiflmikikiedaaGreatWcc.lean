/-
  What the claim stands on, part 3: Lsc Dm Dl Lfl Dv Lpc Scn By Lps Lcl Dst Sty Stz Dsc Mi Ro Ri Chn Chk Dsv Mq.
-/
import Derived.Test.YtdiflmikikiedaaGreatWcb
import Derived.Lib.ConvBytes
namespace Go.Proofs.YtdiflmikikiedaaGreat
set_option linter.all false
open Go.Proofs.Tryz
set_option maxRecDepth 20000
set_option maxHeartbeats 4000000
open Go.RowKit
theorem apj:liesAt prog prog.depth 340 (7 / prog.cellsOf 340) 2 172 1=true:=by kernel_rfl
instance WV:Ty prog 5 1 1 [.int .u8 0] false:=⟨by kernel_rfl,by kernel_rfl⟩
abbrev iq (b:Nat) (s:ByteArray) (i:Int) (p v q:aj) (pl e:Int):Nat × Obj:=(b,.cells #[.string s,vi i,p,v,q,vi pl,vi e] 340 (0,0))
theorem asw (G:GH) (L:OL) (w0:World) (b:Nat) (s:ByteArray) (i:Int) (A:Option Addr) (n c:Nat) (B:Option Addr) (m d:Nat) (pl e:Int) (hO:gG G (iq b s i (.pointer none) (.slice A n c) (.slice B m d) pl e :: L) w0) :
  Calls prog 154 #[(aM b 2)] w0 (fP w0 G (iq b s i (.pointer none) (.slice A n c) (.slice B m d) pl e :: L) fun u G' L'=>L'=iq b s i (aM b 2) (.slice A n c) (.slice B m d) pl e :: L∧G'=G):=by
 refine jr (N:=20) (T:=[(0,_)]) func154 rfl ntmps154 rfl rfl hO ?_;intro a H;refine kP H (SR fun _ K1=>Rm rfl (Rk rfl (dU KM MO 0 rfl rfl ?_)));clear H;intro a H;refine adN JN H wn rfl rfl ?_;clear H;intro a H;refine K1 _ _ ?_;clear K1;refine mW H rfl ?_ ?_
 ·intro h6
  refine kP H (SC (Rm rfl (Rm rfl ?_)));clear H;intro a H;refine asl JN Xb WI H wn rfl 0 rfl rfl rfl ?_;clear H;intro a H;refine arZ (xs:=[.tmp 9]) (apM _) H wn rfl rfl ?_;clear H;intro a H;refine arU Xb JN WI H wn rfl 0 rfl apj rfl ?_;clear H;intro a H;refine kH H (Rk rfl (Rf KM rfl ?_));clear H;intro a H;refine aY MO 0 (vs:=[_]) _ H wn rfl rfl rfl rfl rfl rfl rfl rfl ?_;clear H;intro w H;dsimp only [List.set,setRow] at H;refine aC ?_;refine (leave0 H results154 ?_).2;exact H.hp.dM ⟨rfl,rfl⟩
 intro h6
 exact absurd h6 (by decide)
theorem asx (G:GH) (L:OL) (w0:World) (b:Nat) (s:ByteArray) (i:Int) (A:Option Addr) (n c:Nat) (B:Option Addr) (m d:Nat) (pl e:Int) (hO:gG G (iq b s i (aM b 2) (.slice A n c) (.slice B m d) pl e :: L) w0) :
  Calls prog 154 #[(aM b 2)] w0 (fP w0 G (iq b s i (aM b 2) (.slice A n c) (.slice B m d) pl e :: L) fun u G' L'=>L'=iq b s i (aM b 2) (.slice A n c) (.slice B m d) pl e :: L∧G'=G):=by
 refine jr (N:=20) (T:=[(0,_)]) func154 rfl ntmps154 rfl rfl hO ?_;intro a H;refine kP H (SR fun _ K1=>Rm rfl (Rk rfl (dU KM MO 0 rfl rfl ?_)));clear H;intro a H;refine adN JN H wn rfl rfl ?_;clear H;intro a H;refine K1 _ _ ?_;clear K1;refine mW H rfl ?_ ?_
 ·intro h6
  exact absurd h6 (by simp)
 intro h6
 refine kP H (SR fun _ K2=>Rm rfl (Rk rfl (dU KM MO 0 rfl rfl (Rm rfl ?_))));clear H;intro a H;refine arX JN WI H wn rfl rfl rfl ?_;clear H;intro a H;refine K2 _ _ ?_;clear K2;refine mW H rfl ?_ ?_
 ·intro h19
  exact absurd h19 (by decide)
 intro h19
 refine iw ?_;refine (leave0 H results154 ?_).2;exact H.hp.dM ⟨rfl,rfl⟩
theorem asy (G:GH) (L:OL) (w0:World) (b:Nat) (s:ByteArray) (i:Int) (p:aj) (A:Option Addr) (n c:Nat) (B:Option Addr) (m d:Nat) (pl e:Int) (hp:p=.pointer none∨p=(aM b 2)) (hO:gG G (iq b s i p (.slice A n c) (.slice B m d) pl e :: L) w0) :
  Calls prog 154 #[(aM b 2)] w0 (fP w0 G (iq b s i p (.slice A n c) (.slice B m d) pl e :: L) fun u G' L'=>L'=iq b s i (aM b 2) (.slice A n c) (.slice B m d) pl e :: L∧G'=G):=by
 rcases hp with rfl|rfl
 ·exact asw G L w0 b s i A n c B m d pl e hO
 exact asx G L w0 b s i A n c B m d pl e hO
theorem aeN (G:GH) (Lp Lo:OL) (w0:World) (b:Nat) (s:ByteArray) (i:Int) (p v:aj) (B:Option Addr) (m d:Nat) (pl e:Int) (n:Nat) (xs:List aj) (c:Int) (hp:p=.pointer none∨p=(aM b 2)) (hO:gG G (iq b s i p v (.slice B m d) pl e :: (Lp++Lo)) w0) (hrow:bX 5 1 v n xs Lo) (hn:n≤4294967296) :
  Calls prog 273 #[(aM b 2),.int .u8 c] w0 (fP w0 G (iq b s i p v (.slice B m d) pl e :: (Lp++Lo)) fun u G' L'=>∃ v' lC,L'=iq b s i (aM b 2) v' (.slice B m d) pl e :: (Lp++lC)∧bX 5 1 v' (n+1) (xs++[.int .u8 c]) lC∧G'=G):=by
 have hml:maxLen=9223372036854775807:=rfl;obtain ⟨A,c0,rfl,-,-⟩:=hrow.shape;obtain ⟨Lt,qK⟩:∃ x,x=Lp++Lo:=⟨_,rfl⟩;rw [← qK] at hO ⊢;refine jr (N:=17) (T:=[(0,_),(1,_)]) func273 rfl ntmps273 rfl rfl hO ?_;intro a H;refine kP H (SR fun _ K1=>aF K1 rfl (SR fun _ K2=>Rm rfl ?_));clear H K1;intro a H;refine gK aio (Li:=[]) (L:=iq b s i p _ (.slice B m d) pl e :: Lt) H wn rfl (asy _ _ _ b s i p A n c0 B m d pl e hp (Hp.owns (Li:=[]) H.hp)) rfl ?_;clear H;rintro v6 _ L6 a w ⟨rfl,rfl⟩ F6 H;dsimp only [List.nil_append] at H;refine K2 _ _ ?_;clear K2;refine kP H (SR fun _ K3=>Rm rfl (Rm rfl (Rk rfl (dU II JL 0 rfl rfl (Rm rfl ?_)))));clear H;intro a H;refine gQ JO WV [_] [_] H wn rfl rfl rfl rfl rfl (by intro i q h;match i,h with|0,h=>exact h|n+1,h=>simp at h) rfl rfl ?_;clear H;intro b13 a w OO H;subst qK;have H:=St.un (A:=[_,_]) (B:=Lp) (C:=Lo) H;refine mI (Li:=[_,_]++Lp) (Lo:=Lo) (news:=[.int .u8 c]) JO WV rfl rfl H wn rfl rfl hrow rfl (H.hp.bT 0 rfl rfl) rfl (by omega) (by omega) rfl ?_;clear H;intro v14 afm a w LY H;obtain ⟨QV,c14,rfl,-,-⟩:=LY.shape;have H:=H.assoc;dsimp only [lca,bK] at H;refine kH H (Rk rfl (Rf II rfl ?_));clear H;intro a H;refine aY JL 1 (vs:=[_]) _ H wn rfl rfl rfl rfl rfl rfl rfl rfl ?_;clear H;intro w H;dsimp only [List.set,setRow] at H;refine K3 _ _ ?_;clear K3;exact kP H (SR fun _ K4=>aF K4 rfl (LR results273 rfl fun H=>H.hp.kZ (L':=iq b s i _ _ _ pl e :: (Lp++afm)) (Bd _ _) ⟨_,_,rfl,LY,rfl⟩))
theorem asY (G:GH) (L:OL) (w0:World) (b:Nat) (s:ByteArray) (i:Int) (p:aj) (A:Option Addr) (n c:Nat) (B:Option Addr) (m d:Nat) (pl e:Int) (hO:gG G (iq b s i p (.slice A n c) (.slice B m d) pl e :: L) w0) :
  Calls prog 279 #[(aM b 2)] w0 (fP w0 G (iq b s i p (.slice A n c) (.slice B m d) pl e :: L) fun u G' L'=>u=vi n∧L'=iq b s i p (.slice A n c) (.slice B m d) pl e :: L∧G'=G):=by
 refine jr (N:=8) (T:=[(0,_)]) func279 rfl ntmps279 rfl rfl hO ?_;intro a H;exact kP H (SR fun _ K1=>aF K1 rfl (SR fun _ K2=>Rm rfl (Rk rfl (dU II JL 0 rfl rfl (Rl JO rfl (aF K2 rfl (LR results279 rfl fun H=>H.hp.dM ⟨rfl,rfl,rfl⟩)))))))
theorem ato (G:GH) (L:OL) (w0:World) (b:Nat) (s:ByteArray) (i:Int) (p:aj) (A:Option Addr) (n c:Nat) (B:Option Addr) (m d:Nat) (pl e:Int) (hO:gG G (iq b s i p (.slice A n c) (.slice B m d) pl e :: L) w0) :
  Calls prog 280 #[(aM b 2)] w0 (fP w0 G (iq b s i p (.slice A n c) (.slice B m d) pl e :: L) fun u G' L'=>L'=iq b s i (.pointer none) (.slice none 0 0) (.slice B m d) pl e :: L∧G'=G):=by
 refine jr (N:=8) (T:=[(0,_)]) func280 rfl ntmps280 rfl rfl hO ?_;intro a H;refine kP H (SR fun _ K1=>Rm rfl (Rk rfl (Rf KM rfl ?_)));clear H;intro a H;refine aY MO 0 (vs:=[_]) _ H wn rfl rfl rfl rfl rfl rfl rfl rfl ?_;clear H;intro w H;dsimp only [List.set,setRow] at H;refine K1 _ _ ?_;clear K1;refine kP H (SC (Rm rfl (Rk rfl (Rf II rfl ?_))));clear H;intro a H;refine aY JL 0 (vs:=[_]) _ H wn rfl rfl rfl rfl rfl rfl rfl rfl ?_;clear H;intro w H;dsimp only [List.set,setRow] at H;refine aC ?_;refine (leave0 H results280 ?_).2;exact H.hp.dM ⟨rfl,rfl⟩
theorem atq (G:GH) (Lp Lo:OL) (w0:World) (b:Nat) (s:ByteArray) (i:Int) (p v:aj) (B:Option Addr) (m d:Nat) (pl e:Int) (l:List UInt8) (hO:gG G (iq b s i p v (.slice B m d) pl e :: (Lp++Lo)) w0) (hrow:bX 5 1 v l.length (Lib.byteCells l) Lo) (h0:l≠[]) :
  Calls prog 94 #[(aM b 2)] w0 (fP w0 G (iq b s i p v (.slice B m d) pl e :: (Lp++Lo)) fun u G' L'=>u=.string ⟨l.toArray⟩∧L'=iq b s i p v (.slice B m d) pl e :: Lp):=by
 rcases hrow.2 with ⟨-,h,-⟩|⟨b2,cap,cur,rfl,rfl,hc1,hc2,hc3,hc4⟩
 ·exact absurd (List.eq_nil_of_length_eq_zero h) h0
 have hl0:l.length≠0:=fun h=>h0 (List.eq_nil_of_length_eq_zero h);have hml:maxLen=9223372036854775807:=rfl;obtain ⟨Lt,qK⟩:∃ x,x=Lp++[(b2,Obj.cells cur 5 (0,0))]:=⟨_,rfl⟩;rw [← qK] at hO ⊢;refine jr (N:=14) (T:=[(0,_)]) func94 rfl ntmps94 rfl rfl hO ?_;intro a H;refine kP H (SR fun _ K1=>aF K1 rfl (SQ fun _ K2=>?_));clear H K1;intro a H;have H:=H.sub (T':=[(0,_)]) ⟨rfl,aL⟩;refine dI hmx [[],[0],[0,1],[0,1,2],(ra 0 4),[],[5],[5,6],[5,6,7],(ra 5 4),(ra 0 10),(ra 0 11)] [10,11] (by kernel_rfl) [_,_,_,.slice (some ⟨b2,0,none⟩) l.length cap,(aM b2 0),_,_,_,.slice (some ⟨b2,0,none⟩) l.length cap,_] H (aD (Z0 rfl (Rm rfl)) (Z1 0 3 rfl (Rk rfl)) (Z1 1 4 rfl (Rf II rfl)) (Z1 2 5 rfl (Ro JL 0 rfl)) (aD ?_ (Z0 rfl (Rm rfl)) (Z1 5 8 rfl (Rk rfl)) (Z1 6 9 rfl (Rf II rfl)) (aD (Z1 7 10 rfl (Ro JL 0 rfl)) (Z1 8 11 rfl (Rl JO rfl)) (bS rfl) (bS rfl) cO))) ?_
 ·refine eu 3 6 rfl rfl fun _ a w G1 hG HT H fin=>?_;refine ash H wn rfl (by omega) rfl ?_;clear H;intro a H;exact fin H iJ rfl
 clear H;intro a w G iY H hv;have H:=H.aN (hv 4 7 rfl rfl) rfl;have H:=H.aN (hv 9 12 rfl rfl) rfl;clear hv;subst qK;have H:=H.perm (List.Perm.cons _ vG);dsimp only [lca,bK] at H;refine asn (i:=1) l aew agt h0 (by omega) H wn rfl rfl rfl (by rw [← hc4,Nat.mul_one]) rfl ?_;clear H;intro fz a w H;dsimp only [List.set] at H;refine kH H (Ra rfl ?_);clear H;intro a H;refine aC ⟨rfl,?_⟩;refine K2 _ _ ?_;clear K2;refine lr H results94 rfl ?_;exact H.hp.kZ (L':=iq b s i _ _ _ pl e :: Lp) (List.Sublist.cons_cons _ (Bd _ _)) ⟨rfl,rfl⟩
section
section
variable {N:Nat} {D:List Deferred} {w0:World} {F:Nat→Prop} {G0 G G1 G2:GH} {L L1 L2:OL} {T Xs:List (Nat × aj)}
variable {r:Option Nat} {P:Program} {Q:Exit→Act→World→Prop} {l:List Oper} {a a':Act} {w w':World}
theorem DX.perm {pr:Nat→aj→GH→Prop} {S:Nat→Bool} (h:DX N D w0 F G0 G L1 T l pr S a w) (hp:L1.Perm L2):DX N D w0 F G0 G L2 T l pr S a w:=by
 obtain ⟨G1,hG,HS,hv⟩:=h
 exact ⟨G1,hG,HS.perm hp,hv⟩
theorem afW {id:Nat} (hm:P.follows .mixedOrders=true) (bD:List (List Nat)) (B:List Nat) (hk:wP l bD=true) (hB:vo l bD B=true) (m1 m2:Nat) (O6:B.contains m1=false) (Jg:B.contains m2=false) (hne:Nat.beq m1 m2=false) (Am xZ:Obj) (pr:Nat→Nat→Nat→aj→GH→Prop)
  (hp1:∀ b b' c i v G,Nat.beq i m1=false→(bD.getD i []).contains m1=false→pr b c i v G→pr b' c i v G)
  (hp2:∀ b c c' i v G,Nat.beq i m2=false→(bD.getD i []).contains m2=false→pr b c i v G→pr b c' i v G)
  (H:St N D w0 F G0 G L T a w)
  (hstep:allI (fun i o=>∀ b c L' S a w G1,(∀ x,x∈L→x∈L')→B.contains i=false→Nat.beq i m1=false→Nat.beq i m2=false→S i=false→(∀ j∈bD.getD i [],S j=true)→(∀ k o,G k=some o→G1 k=some o)→St N D w0 F G0 G1 L' T a w→(∀ i d,S i=true→dS l i=some d→∃ v,a.tmps[d]?=some v∧pr b c i v G1) →
   WL r P l.toArray (fun e a' w'=>e=.normal∧DX N D w0 F G0 G L' T l (pr b c) (bY S i) a' w') [o] a w) 0 l)
  (F7:∀ o c L' S a w G1,(∀ x,x∈L→x∈L')→l[m1]?=some o→S m1=false→(∀ j∈bD.getD m1 [],S j=true)→(∀ k o,G k=some o→G1 k=some o)→St N D w0 F G0 G1 L' T a w→(∀ b i d,i≠m1→S i=true→dS l i=some d→∃ v,a.tmps[d]?=some v∧pr b c i v G1) →
   WL r P l.toArray (fun e a' w'=>e=.normal∧∃ b,DX N D w0 F G0 G ((b,Am) :: L') T l (pr b c) (bY S m1) a' w') [o] a w)
  (F8:∀ o b L' S a w G1,(∀ x,x∈L→x∈L')→l[m2]?=some o→S m2=false→(∀ j∈bD.getD m2 [],S j=true)→(∀ k o,G k=some o→G1 k=some o)→St N D w0 F G0 G1 L' T a w→(∀ c i d,i≠m2→S i=true→dS l i=some d→∃ v,a.tmps[d]?=some v∧pr b c i v G1) →
   WL r P l.toArray (fun e a' w'=>e=.normal∧∃ c,DX N D w0 F G0 G ((c,xZ) :: L') T l (pr b c) (bY S m2) a' w') [o] a w)
  (hend:∀ b c a w G1,(∀ k o,G k=some o→G1 k=some o)→St N D w0 F G0 G1 ((b,Am) :: (c,xZ) :: L) T a w→(∀ i d,B.contains i=false→dS l i=some d→∃ v,a.tmps[d]?=some v∧pr b c i v G1)→WL r P l.toArray (fun e a w=>e=.normal∧Q .normal a w) (oV l B) a w)
  (UZ:Nat.blt m1 l.length=true) (CZ:Nat.blt m2 l.length=true):WP r P (.region id l.toArray true) Q a w:=by
 have hne':m1≠m2:=fun e=>by subst e;rw [Nat.beq_refl] at hne;cases hne
 refine Ea hm bD B hk hB (fun S a w=>∃ b c L',L'=(bif S m1 then [(b,Am)] else [])++((bif S m2 then [(c,xZ)] else [])++L)∧DX N D w0 F G0 G L' T l (pr b c) S a w)
  ⟨0,0,L,rfl,G,fun _ _ h=>h,H.move H.hp.drew,fun _ _ h=>absurd (show false=true from h) (by decide)⟩ ?_ ?_
 ·rintro i o S a w ho hb aK iK hdesc ⟨b,c,L',hL,G1,hG,HS,hv⟩
  have hsub:∀ x,x∈L→x∈L':=fun x hx=>by rw [hL];exact List.mem_append_right _ (List.mem_append_right _ hx)
  have hno:∀ j,j < l.length→S j=true→(bD.getD j []).contains i=false:=fun j hjl hj=>by
   cases hc:(bD.getD j []).contains i with
   | false=>rfl
   | true =>
    have:=hdesc j hjl (by simpa using hc)
    rw [this] at hj;cases hj
  by_cases h1:i=m1
  ·subst h1
   have h:=F7 o c L' S a w G1 hsub ho aK iK hG HS fun b' j d hj hSj hd=>by
    obtain ⟨v,hv1,hv2⟩:=hv j d hSj hd
    exact ⟨v,hv1,hp1 b b' c j v _ (nM hj) (hno j (pW hd) hSj) hv2⟩
   refine lu (fun e a' w' ⟨he,b',hD⟩=>⟨he,b',c,_,?_,hD⟩) h
   rw [hL,aK,show bY S i i=true from ak rfl,show bY S i m2=S m2 from ah (fun e=>hne' e.symm)]
   rfl
  ·by_cases h2:i=m2
   ·subst h2
    have h:=F8 o b L' S a w G1 hsub ho aK iK hG HS fun c' j d hj hSj hd=>by
     obtain ⟨v,hv1,hv2⟩:=hv j d hSj hd
     exact ⟨v,hv1,hp2 b c c' j v _ (nM hj) (hno j (pW hd) hSj) hv2⟩
    refine lu (fun e a' w' ⟨he,c',hD⟩=>⟨he,b,c',_,rfl,hD.perm ?_⟩) h
    rw [hL,aK,show bY S i i=true from ak rfl,show bY S i m1=S m1 from ah hne']
    cases S m1 with
    | false=>exact List.Perm.refl _
    | true=>exact List.Perm.swap _ _ _
   ·have h:=yP hstep i o ho
    rw [gD] at h
    have e1:bY S i m1=S m1:=ah (fun e=>h1 e.symm)
    have e2:bY S i m2=S m2:=ah (fun e=>h2 e.symm)
    refine lu (fun e a' w' ⟨he,hD⟩=>⟨he,b,c,L',?_,hD⟩) (h b c L' S a w G1 hsub hb (nM h1) (nM h2) aK iK hG HS hv)
    rw [e1,e2];exact hL
 ·rintro S a w hall Gg ⟨b,c,L',hL,G1,hG,HS,hv⟩
  have hs1:S m1=true:=hall m1 (Eq.mp Nat.blt_eq UZ) O6
  have hs2:S m2=true:=hall m2 (Eq.mp Nat.blt_eq CZ) Jg
  rw [hs1,hs2] at hL
  subst hL
  exact hend b c a w G1 hG HS fun j d hb hd=>hv j d (hall j (pW hd) hb) hd
end
end
section
section
variable {N:Nat} {D:List Deferred} {w0:World} {F:Nat→Prop} {G0 G G1 G2:GH} {L L1 L2:OL} {T Xs:List (Nat × aj)}
variable {r:Option Nat} {P:Program} {Q:Exit→Act→World→Prop} {l:List Oper} {a a':Act} {w w':World}
theorem Cx {pr:Nat→aj→GH→Prop} {S:Nat→Bool} {i d:Nat} {v:aj} (hok:pE l T i=true) (kD:∀ i v (G G':GH),(∀ k o,G k=some o→G' k=some o)→pr i v G→pr i v G') (hi:dS l i=some d)
  (HT:St N D w0 F G0 G1 L T a w) (Hb:St N D w0 F G0 G1 L (Xs++full N a) a w) (hG:∀ k o,G k=some o→G1 k=some o) (hv:∀ j d,j≠i→S j=true→dS l j=some d→∃ v,a.tmps[d]?=some v∧pr j v G1)
  (hG2:∀ k o,G1 k=some o→G2 k=some o) (hp:pr i v G2) (H:St N D w0 F G0 G2 L1 ((d,v) :: (Xs++full N a)) a' w'):DX N D w0 F G0 G L1 T l pr (bY S i) a' w':=by
 have hok1:=hok
 rw [pE,hi] at hok1
 simp only [nK,Option.isNone_iff_eq_none,kE,uK] at hok1
 have hsame:∀ t,t≠d→a'.tmps[t]?=a.tmps[t]?:=by
  intro t ht
  by_cases hlt:t < N
  ·have h1:∃ u,lk (Xs++full N a) t=some u:=by
    rw [PI]
    cases lk Xs t with
    | some u=>exact ⟨u,rfl⟩
    | none=>exact ⟨_,PK a hlt⟩
   obtain ⟨u,hu⟩:=h1
   rw [Hb.get t u hu,H.get t u (by rw [wu (Ne.symm ht)];exact hu)]
  ·rw [Array.getElem?_eq_none (by rw [H.nU];omega),Array.getElem?_eq_none (by rw [Hb.nU];omega)]
 refine ⟨G2,fun k o hk=>hG2 k o (hG k o hk),⟨H.nU,fun t u ht=>?_,H.tX,H.hp⟩,fun j e hj he=>?_⟩
 ·rw [hsame t (fun e=>by rw [e,hok1.1] at ht;cases ht)]
  exact HT.get t u ht
 ·by_cases hji:j=i
  ·subst hji
   rw [hi] at he
   simp only [oK] at he
   subst he
   exact ⟨v,H.get d v (xq _ _ _),hp⟩
  ·have hSj:S j=true:=by unfold bY at hj;rwa [ah hji] at hj
   obtain ⟨u,hu1,hu2⟩:=hv j e hji hSj he
   have hne:e≠d:=by
    intro e'
    subst e'
    have h2:=hok1.2 j (pW he)
    rw [nM (fun h=>hji h.symm),he] at h2
    simp at h2
   exact ⟨u,by rw [hsame e hne];exact hu1,kD j u _ _ hG2 hu2⟩
theorem afV {id:Nat} {κ:Type} (k0:κ) (hm:P.follows .mixedOrders=true) (bD:List (List Nat)) (B:List Nat) (hk:wP l bD=true) (hB:vo l bD B=true) (m1 m2 m3:Nat) (O6:B.contains m1=false) (Jg:B.contains m2=false) (UW:B.contains m3=false) (hne:Nat.beq m1 m2=false) (abb:Nat.beq m2 m3=false) (hne1:Nat.beq m1 m3=false) (h12:(bD.getD m2 []).contains m1=true) (jD:(bD.getD m3 []).contains m1=true) (h23:(bD.getD m3 []).contains m2=true)
  (C L2:OL) (ob:Obj) (L3:Nat→κ→OL) (hC:∀ x,x∈C→x∈L) (hC2:∀ x,x∈C→x∈L2) (hC3:∀ b k x,x∈C→x∈L3 b k) (pr:Nat→κ→Nat→aj→GH→Prop)
  (LX:∀ b b' k i v G,Nat.beq i m2=false→(bD.getD i []).contains m2=false→pr b k i v G→pr b' k i v G)
  (anK:∀ b k k' i v G,Nat.beq i m3=false→(bD.getD i []).contains m3=false→pr b k i v G→pr b k' i v G)
  (H:St N D w0 F G0 G L T a w)
  (hstep:allI (fun i o=>∀ b k L' S a w G1,(∀ x,x∈C→x∈L')→B.contains i=false→Nat.beq i m1=false→Nat.beq i m2=false→Nat.beq i m3=false→S i=false→(∀ j∈bD.getD i [],S j=true)→(∀ k o,G k=some o→G1 k=some o)→St N D w0 F G0 G1 L' T a w→(∀ i d,S i=true→dS l i=some d→∃ v,a.tmps[d]?=some v∧pr b k i v G1) →
   WL r P l.toArray (fun e a' w'=>e=.normal∧DX N D w0 F G0 G L' T l (pr b k) (bY S i) a' w') [o] a w) 0 l)
  (F7:∀ o b k S a w G1,l[m1]?=some o→S m1=false→(∀ j∈bD.getD m1 [],S j=true)→(∀ k o,G k=some o→G1 k=some o)→St N D w0 F G0 G1 L T a w→(∀ i d,i≠m1→S i=true→dS l i=some d→∃ v,a.tmps[d]?=some v∧pr b k i v G1) →
   WL r P l.toArray (fun e a' w'=>e=.normal∧DX N D w0 F G0 G L2 T l (pr b k) (bY S m1) a' w') [o] a w)
  (F8:∀ o k S a w G1,l[m2]?=some o→S m2=false→(∀ j∈bD.getD m2 [],S j=true)→(∀ k o,G k=some o→G1 k=some o)→St N D w0 F G0 G1 L2 T a w→(∀ b i d,i≠m2→S i=true→dS l i=some d→∃ v,a.tmps[d]?=some v∧pr b k i v G1) →
   WL r P l.toArray (fun e a' w'=>e=.normal∧∃ b,DX N D w0 F G0 G ((b,ob) :: L2) T l (pr b k) (bY S m2) a' w') [o] a w)
  (UY:∀ o b S a w G1,l[m3]?=some o→S m3=false→(∀ j∈bD.getD m3 [],S j=true)→(∀ k o,G k=some o→G1 k=some o)→St N D w0 F G0 G1 ((b,ob) :: L2) T a w→(∀ k i d,i≠m3→S i=true→dS l i=some d→∃ v,a.tmps[d]?=some v∧pr b k i v G1) →
   WL r P l.toArray (fun e a' w'=>e=.normal∧∃ k,DX N D w0 F G0 G (L3 b k) T l (pr b k) (bY S m3) a' w') [o] a w)
  (hend:∀ b k a w G1,(∀ k o,G k=some o→G1 k=some o)→St N D w0 F G0 G1 (L3 b k) T a w→(∀ i d,B.contains i=false→dS l i=some d→∃ v,a.tmps[d]?=some v∧pr b k i v G1)→WL r P l.toArray (fun e a w=>e=.normal∧Q .normal a w) (oV l B) a w)
  (CZ:Nat.blt m2 l.length=true) (F9:Nat.blt m3 l.length=true):WP r P (.region id l.toArray true) Q a w:=by
 have acE:m1≠m2:=fun e=>by subst e;rw [Nat.beq_refl] at hne;cases hne
 have acG:m2≠m3:=fun e=>by subst e;rw [Nat.beq_refl] at abb;cases abb
 have acF:m1≠m3:=fun e=>by subst e;rw [Nat.beq_refl] at hne1;cases hne1
 refine Ea hm bD B hk hB (fun S a w=>(S m2=true→S m1=true)∧(S m3=true→S m2=true)∧∃ b k L',L'=(bif S m3 then L3 b k else bif S m2 then (b,ob) :: L2 else bif S m1 then L2 else L)∧DX N D w0 F G0 G L' T l (pr b k) S a w)
  ⟨fun h=>h,fun h=>h,0,k0,L,rfl,G,fun _ _ h=>h,H.move H.hp.drew,fun _ _ h=>absurd (show false=true from h) (by decide)⟩ ?_ ?_
 ·rintro i o S a w ho hb aK iK hdesc ⟨EC,anI,b,k,L',hL,G1,hG,HS,hv⟩
  have hsub:∀ x,x∈C→x∈L':=fun x hx=>by
   rw [hL]
   cases S m3 with
   | true=>exact hC3 b k x hx
   | false=>cases S m2 with
    | true=>exact fJ _ (hC2 x hx)
    | false=>cases S m1 with
     | true=>exact hC2 x hx
     | false=>exact hC x hx
  have hno:∀ j,j < l.length→S j=true→(bD.getD j []).contains i=false:=fun j hjl hj=>by
   cases hc:(bD.getD j []).contains i with
   | false=>rfl
   | true =>
    have:=hdesc j hjl (by simpa using hc)
    rw [this] at hj;cases hj
  by_cases h1:i=m1
  ·subst h1
   have hS2:S m2=false:=hdesc m2 (Eq.mp Nat.blt_eq CZ) (by simpa using h12)
   have zV:S m3=false:=hdesc m3 (Eq.mp Nat.blt_eq F9) (by simpa using jD)
   rw [zV,hS2,aK] at hL
   subst hL
   have h:=F7 o b k S a w G1 ho aK iK hG HS fun j d hj hSj hd=>hv j d hSj hd
   have e2:bY S i m2=S m2:=ah (fun e=>acE e.symm)
   have e3:bY S i m3=S m3:=ah (fun e=>acF e.symm)
   refine lu (fun e a' w' ⟨he,hD⟩=>⟨he,fun _=>ak rfl,fun h=>(by rw [e3,zV] at h;cases h),b,k,_,?_,hD⟩) h
   rw [show bY S i i=true from ak rfl,e2,e3,hS2,zV]
   rfl
  ·by_cases h2:i=m2
   ·subst h2
    have hS1:S m1=true:=iK m1 (by simpa using h12)
    have zV:S m3=false:=hdesc m3 (Eq.mp Nat.blt_eq F9) (by simpa using h23)
    rw [zV,aK,hS1] at hL
    subst hL
    have e1:bY S i m1=S m1:=ah acE
    have e3:bY S i m3=S m3:=ah (fun e=>acG e.symm)
    have h:=F8 o k S a w G1 ho aK iK hG HS fun b' j d hj hSj hd=>by
     obtain ⟨v,hv1,hv2⟩:=hv j d hSj hd
     exact ⟨v,hv1,LX b b' k j v _ (nM hj) (hno j (pW hd) hSj) hv2⟩
    refine lu (fun e a' w' ⟨he,b',hD⟩=>⟨he,fun _=>by rw [e1];exact hS1,fun _=>ak rfl,b',k,_,?_,hD⟩) h
    rw [show bY S i i=true from ak rfl,e3,zV];rfl
   ·by_cases h3:i=m3
    ·subst h3
     have hS1:S m1=true:=iK m1 (by simpa using jD)
     have hS2:S m2=true:=iK m2 (by simpa using h23)
     rw [aK,hS2] at hL
     subst hL
     have e1:bY S i m1=S m1:=ah acF
     have e2:bY S i m2=S m2:=ah acG
     have h:=UY o b S a w G1 ho aK iK hG HS fun k' j d hj hSj hd=>by
      obtain ⟨v,hv1,hv2⟩:=hv j d hSj hd
      exact ⟨v,hv1,anK b k k' j v _ (nM hj) (hno j (pW hd) hSj) hv2⟩
     refine lu (fun e a' w' ⟨he,k',hD⟩=>⟨he,fun _=>by rw [e1];exact hS1,fun _=>by rw [e2];exact hS2,b,k',_,?_,hD⟩) h
     rw [show bY S i i=true from ak rfl];rfl
    ·have h:=yP hstep i o ho
     rw [gD] at h
     have e1:bY S i m1=S m1:=ah (fun e=>h1 e.symm)
     have e2:bY S i m2=S m2:=ah (fun e=>h2 e.symm)
     have e3:bY S i m3=S m3:=ah (fun e=>h3 e.symm)
     refine lu (fun e a' w' ⟨he,hD⟩=>⟨he,by rw [e1,e2];exact EC,by rw [e2,e3];exact anI,b,k,L',?_,hD⟩) (h b k L' S a w G1 hsub hb (nM h1) (nM h2) (nM h3) aK iK hG HS hv)
     rw [e1,e2,e3];exact hL
 ·rintro S a w hall Gg ⟨_,_,b,k,L',hL,G1,hG,HS,hv⟩
  have hs3:S m3=true:=hall m3 (Eq.mp Nat.blt_eq F9) UW
  rw [hs3] at hL
  subst hL
  exact hend b k a w G1 hG HS fun j d hb hd=>hv j d (hall j (pW hd) hb) hd
end
theorem atz {z:Int} (h1:0≤z) (h2:z < 256):IntKind.u8.wrap z=z:=by
 simp only [IntKind.wrap,IntKind.bits,IntKind.signed,xI,tJ,if_false]
 omega
section
variable {N:Nat} {D:List Deferred} {w0:World} {F:Nat→Prop} {G0 G:GH} {L:OL} {T:List (Nat × aj)}
variable {r:Option Nat} {P:Program} {ops:Array Oper} {Q:Exit→Act→World→Prop} {rest:List Oper} {a:Act} {w:World}
variable {d:Nat} {ty:TypeId} {pos:String} {aO:Array Edge} {g:Option (Nat × Bool)}
theorem asj {x y:Operand} {t yt:TypeId} {p q:Int} (H:St N D w0 F G0 G L T a w) (hw:Region.wanted ⟨some d,.binOp .sub t x y yt,ty,pos,aO,g⟩ (yielded ops a.tmps)=true) (hx:ev T x=some (.int .u8 p)) (hy:ev T y=some (.int .u8 q)) (h1:0≤p - q) (h2:p - q < 256) (hd:Nat.blt d N=true)
  (k:∀ a',St N D w0 F G0 G L ((d,.int .u8 (p - q)) :: T) a' w→WL r P ops Q rest a' w):WL r P ops Q (⟨some d,.binOp .sub t x y yt,ty,pos,aO,g⟩ :: rest) a w :=
 fF (v:=.int .u8 (p - q)) (w':=w) hw rfl (by simp [execOp,eqGuard,binOp,Op.intArith,H.ev hx,H.ev hy,dV,atz h1 h2]) (k _ (H.put hd _ H.hp))
end
end
theorem ajG:∀ args w,(callFunc 279 args).run prog w=.ok (.enter 279 args) w:=enters func279 rfl (by kernel_rfl)
instance QH:Ty prog 313 1 24 [.slice none 0 0] false:=⟨by kernel_rfl,by kernel_rfl⟩
theorem akc:∀ args w,(callFunc 94 args).run prog w=.ok (.enter 94 args) w:=enters func94 rfl (by kernel_rfl)
theorem MR:prog.underlying 313=some (.slice 318):=by kernel_rfl
instance:lD prog 313 (.slice 318):=⟨MR⟩
instance MP:Ty prog 318 3 32 [.string ⟨#[]⟩,.int .i64 0,.bool false] true:=⟨by kernel_rfl,by kernel_rfl⟩
theorem ajH:∀ args w,(callFunc 280 args).run prog w=.ok (.enter 280 args) w:=enters func280 rfl (by kernel_rfl)
instance KO:dR prog 340 2 2:=⟨by kernel_rfl⟩
instance Ol:dR prog 340 3 4:=⟨by kernel_rfl⟩
theorem aec:qE prog 318 [(0,1),(1,1),(2,1)] [.string ⟨#[]⟩,.int .i64 0,.bool false]:=⟨by kernel_rfl,by kernel_rfl⟩
theorem SK:∀ args w,(callFunc 274 args).run prog w=.ok (.enter 274 args) w:=enters func274 rfl (by kernel_rfl)
instance Om:dR prog 340 4 5:=⟨by kernel_rfl⟩
structure jG where
 lit:ByteArray
 level:Int
 plain:Bool
def jG.dat (x:jG):List Dat:=[.lf (.string x.lit),li x.level,.lf (.bool x.plain)]
abbrev jG.cells (x:jG):List aj:=[.string x.lit,vi x.level,.bool x.plain]
theorem acn (G:GH) (x:jG):aV G x.dat x.cells:=by
 simp only [jG.dat,jG.cells,aV]
 exact ⟨_,_,rfl,by simp [au,Value.oneCell'],_,_,rfl,by simp [au,Value.oneCell'],_,_,rfl,by simp [au,Value.oneCell'],rfl⟩
theorem acj {G:GH} {x:jG} {cs:List aj} (h:aV G x.dat cs):cs=x.cells:=by
 simp only [jG.dat,aV,au] at h
 obtain ⟨_,_,rfl,⟨rfl,_⟩,_,_,rfl,⟨rfl,_⟩,_,_,rfl,⟨rfl,_⟩,rfl⟩:=h
 rfl
def GK (l:List jG):List aj:=(l.map jG.cells).flatten
theorem aci (l:List jG) (x:jG):GK (l++[x])=GK l++x.cells:=by simp [GK]
structure A9 (b:Nat) (lit:List UInt8) (parts:List jG) (p v q:aj) (Lp Lo:OL):Prop where
 ptr:p=.pointer none∨p=(aM b 2)
 buf:bX 5 1 v lit.length (Lib.byteCells lit) Lo
 prt:bX 318 3 q parts.length (GK parts) Lp
def vT (lit:List UInt8) (parts:List jG):List jG:=if lit=[] then parts else parts++[⟨⟨lit.toArray⟩,0,false⟩]
theorem TA (G:GH) (Lp Lo:OL) (w0:World) (b:Nat) (s:ByteArray) (i:Int) (p v q:aj) (pl e:Int) (lit:List UInt8) (parts:List jG) (hR:A9 b lit parts p v q Lp Lo) (hO:gG G (iq b s i p v q pl e :: (Lp++Lo)) w0) (hl:lit.length≤4294967296) (hp:parts.length≤4294967296) :
  Calls prog 274 #[(aM b 0)] w0 (fP w0 G (iq b s i p v q pl e :: (Lp++Lo)) fun u G' L'=>∃ p' v' q' rP lC,L'=iq b s i p' v' q' pl e :: (rP++lC)∧A9 b [] (vT lit parts) p' v' q' rP lC):=by
 obtain ⟨abq,hbuf,Pm⟩:=hR;have hml:maxLen=9223372036854775807:=rfl;obtain ⟨A,c,rfl,abI,abJ⟩:=hbuf.shape;obtain ⟨B,d,rfl,abr,abt⟩:=Pm.shape;obtain ⟨Lt,qK⟩:∃ x,x=Lp++Lo:=⟨_,rfl⟩;rw [← qK] at hO ⊢;refine jr (N:=25) (T:=[(0,_)]) func274 rfl ntmps274 rfl rfl hO ?_;intro a H;refine kP H (SR fun _ K1=>Rm rfl (Rk rfl (Rf KO rfl ?_)));clear H;intro a H;refine gK ajG (Li:=[]) (L:=iq b s i p (.slice A lit.length c) (.slice B parts.length d) pl e :: Lt) H wn rfl (asY _ _ _ b s i p A lit.length c B parts.length d pl e (Hp.owns (Li:=[]) H.hp)) rfl ?_;clear H;rintro v5 _ L5 a w ⟨rfl,rfl,rfl⟩ zZ H;dsimp only [List.nil_append] at H;refine kH H (Rc rfl (Kz K1 (Cd rfl ?_ ?_))) <;> clear H K1
 ·intro h6 a H
  try have p6:=dT h6
  have hne:lit≠[]:=fun e=>by rw [e] at p6;simp at p6
  subst qK;refine eY (fun _ K2=>?_)
  have dO:XT (fun (aJ:Nat) (dz:(Option Addr × Nat) × OL) (bQ:Nat) (v:aj) (G:GH)=>match bQ with|0=>v=(aM b 0)|1=>v=(aM b 0)|2=>v=(aM b 0)|3=>v=(aM b 4)|4=>v=.slice B parts.length d|5=>v=(aM b 0)|6=>v=(aM b 0)|7=>v=(aM b 2)|8=>v=.string ⟨lit.toArray⟩|9=>v=.agg (jG.cells ⟨⟨lit.toArray⟩,0,false⟩).toArray|10=>v=.slice (some ⟨aJ,0,none⟩) 1 1|11=>v=.slice dz.1.1 (parts.length+1) dz.1.2∧bX 318 3 v (parts.length+1) (GK (parts++[⟨⟨lit.toArray⟩,0,false⟩])) dz.2|_=>True):=by intro aJ dz bQ v G G' hm h;(iterate 15 (rcases bQ with _|bQ;(first|exact h)));exact trivial
  refine afV (κ:=(Option Addr × Nat) × OL) (((none,0),[])) (hmx) [[],[],[1],[1,2],[1,2,3],[],[5],[5,6],[5,6,7],(ra 5 4),(ra 5 5),(ra 1 10),(ra 0 12),(ra 0 13),(ra 0 14)] [12,13,14] (by kernel_rfl) (by kernel_rfl) 8 10 11 (by decide) (by decide) (by decide) (by decide) (by decide) (by decide) (by decide) (by decide) (by decide) [iq b s i p (.slice A lit.length c) (.slice B parts.length d) pl e] (iq b s i p (.slice A lit.length c) (.slice B parts.length d) pl e :: Lp) (.cells (jG.cells ⟨⟨lit.toArray⟩,0,false⟩).toArray 318 (0,0)) (fun b_ k_=>(b_,.cells (jG.cells ⟨⟨lit.toArray⟩,0,false⟩).toArray 318 (0,0)) :: iq b s i p (.slice A lit.length c) (.slice B parts.length d) pl e :: k_.2) (fun x hx=>by rw [tL.1 hx];exact eX) (fun x hx=>by rw [tL.1 hx];exact eX) (fun _ _ x hx=>by rw [tL.1 hx];exact fJ _ eX) (fun (aJ:Nat) (dz:(Option Addr × Nat) × OL) (bQ:Nat) (v:aj) (G:GH)=>match bQ with|0=>v=(aM b 0)|1=>v=(aM b 0)|2=>v=(aM b 0)|3=>v=(aM b 4)|4=>v=.slice B parts.length d|5=>v=(aM b 0)|6=>v=(aM b 0)|7=>v=(aM b 2)|8=>v=.string ⟨lit.toArray⟩|9=>v=.agg (jG.cells ⟨⟨lit.toArray⟩,0,false⟩).toArray|10=>v=.slice (some ⟨aJ,0,none⟩) 1 1|11=>v=.slice dz.1.1 (parts.length+1) dz.1.2∧bX 318 3 v (parts.length+1) (GK (parts++[⟨⟨lit.toArray⟩,0,false⟩])) dz.2|_=>True) (fun b b' k i v G hi hc h=>by (iterate 15 (rcases i with _|i;(first|exact h|exact absurd hi (by decide)|exact absurd hc (by decide))));exact trivial) (fun b k k' i v G hi hc h=>by (iterate 15 (rcases i with _|i;(first|exact h|exact absurd hi (by decide)|exact absurd hc (by decide))));exact trivial) H ?_ ?_ ?_ ?_ ?_ (by kernel_rfl) (by kernel_rfl)
  ·clear H;refine aD ?_ ?_ ?_ ?_ (aD ?_ ?_ ?_ ?_ (aD ?_ ?_ ?_ ?_ (bM ?_ (bM ?_ (bM ?_ cO)))))
   ·intro aJ dz dD aP a w G1 dH _ _ _ _ aK hc hG HT hv;have H:=HT;clear aK;have Hb:=H.full;have H:=Hb;clear hc;refine kH H (Rm rfl ?_);clear H;intro a H;refine aC ⟨rfl,?_⟩;exact dw (by kernel_rfl) (dO aJ dz) rfl rfl HT Hb hG hv (fun _ _ h=>h) (rfl) H
   ·intro aJ dz dD aP a w G1 dH _ _ _ _ aK hc hG HT hv;have H:=HT;clear aK;have Hb:=H.full;have H:=Hb;clear hc;refine kH H (Rm rfl ?_);clear H;intro a H;refine aC ⟨rfl,?_⟩;exact dw (by kernel_rfl) (dO aJ dz) rfl rfl HT Hb hG hv (fun _ _ h=>h) (rfl) H
   ·intro aJ dz dD aP a w G1 dH _ _ _ _ aK hc hG HT hv;have H:=HT;clear aK;have H:=H.aN (hv 1 8 (hc 1 (by decide)) rfl) rfl;have Hb:=H.full;have H:=Hb;clear hc;refine kH H (Rk rfl ?_);clear H;intro a H;refine aC ⟨rfl,?_⟩;exact dw (by kernel_rfl) (dO aJ dz) rfl rfl HT Hb hG hv (fun _ _ h=>h) (rfl) H
   ·intro aJ dz dD aP a w G1 dH _ _ _ _ aK hc hG HT hv;have H:=HT;clear aK;have H:=H.aN (hv 2 9 (hc 2 (by decide)) rfl) rfl;have Hb:=H.full;have H:=Hb;clear hc;refine kH H (Rf Ol rfl ?_);clear H;intro a H;refine aC ⟨rfl,?_⟩;exact dw (by kernel_rfl) (dO aJ dz) rfl rfl HT Hb hG hv (fun _ _ h=>h) (rfl) H
   ·intro aJ dz dD aP a w G1 dH _ _ _ _ aK hc hG HT hv;have H:=HT;clear aK;have H:=H.aN (hv 3 10 (hc 3 (by decide)) rfl) rfl;have Hb:=H.full;have H:=Hb;clear hc;refine kL QH H wn rfl (H.hp.xY (dH _ eX) rfl) rfl ?_;clear H;intro a H;refine aC ⟨rfl,?_⟩;exact dw (by kernel_rfl) (dO aJ dz) rfl rfl HT Hb hG hv (fun _ _ h=>h) (rfl) H
   ·intro aJ dz dD aP a w G1 dH _ _ _ _ aK hc hG HT hv;have H:=HT;clear aK;have Hb:=H.full;have H:=Hb;clear hc;refine kH H (Rm rfl ?_);clear H;intro a H;refine aC ⟨rfl,?_⟩;exact dw (by kernel_rfl) (dO aJ dz) rfl rfl HT Hb hG hv (fun _ _ h=>h) (rfl) H
   ·intro aJ dz dD aP a w G1 dH _ _ _ _ aK hc hG HT hv;have H:=HT;clear aK;have H:=H.aN (hv 5 12 (hc 5 (by decide)) rfl) rfl;have Hb:=H.full;have H:=Hb;clear hc;refine kH H (Rk rfl ?_);clear H;intro a H;refine aC ⟨rfl,?_⟩;exact dw (by kernel_rfl) (dO aJ dz) rfl rfl HT Hb hG hv (fun _ _ h=>h) (rfl) H
   ·intro aJ dz dD aP a w G1 dH _ _ _ _ aK hc hG HT hv;have H:=HT;clear aK;have H:=H.aN (hv 6 13 (hc 6 (by decide)) rfl) rfl;have Hb:=H.full;have H:=Hb;clear hc;refine kH H (Rf KO rfl ?_);clear H;intro a H;refine aC ⟨rfl,?_⟩;exact dw (by kernel_rfl) (dO aJ dz) rfl rfl HT Hb hG hv (fun _ _ h=>h) (rfl) H
   ·intro _ _ _ _ _ _ _ _ _ hB;exact absurd hB (by decide)
   ·intro aJ dz dD aP a w G1 dH _ _ _ _ aK hc hG HT hv;have H:=HT;clear aK;have H:=H.aN (hv 8 15 (hc 8 (by decide)) rfl) rfl;have Hb:=H.full;have H:=Hb;clear hc;refine jl aec [_,_,_] H wn rfl rfl rfl rfl ?_;clear H;intro a H;refine aC ⟨rfl,?_⟩;exact dw (by kernel_rfl) (dO aJ dz) rfl rfl HT Hb hG hv (fun _ _ h=>h) (rfl) H
   ·intro _ _ _ _ _ _ _ _ _ _ hB;exact absurd hB (by decide)
   ·intro _ _ _ _ _ _ _ _ _ _ _ hB;exact absurd hB (by decide)
   ·intro _ _ _ _ _ _ _ _ hB;exact absurd hB (by decide)
   ·intro _ _ _ _ _ _ _ _ hB;exact absurd hB (by decide)
   intro _ _ _ _ _ _ _ _ hB;exact absurd hB (by decide)
  ·clear H;intro o_ aJ dz aP a w G1 jv _ hc hG HT hv;obtain rfl:_=o_:=Option.some.inj jv;clear jv;have H:=HT;have H:=H.aN (hv 7 14 (by decide) (hc 7 (by decide)) rfl) rfl;have Hb:=H.full;have H:=Hb;clear hc;refine gK akc (Li:=[]) (L:=iq b s i p (.slice A lit.length c) (.slice B parts.length d) pl e :: (Lp++Lo)) H wn rfl (atq _ _ _ _ b s i p _ B parts.length d pl e lit (Hp.owns (Li:=[]) H.hp) hbuf hne) rfl ?_;clear H;rintro v15 Cn Rp a w ⟨rfl,rfl⟩ zS H;dsimp only [List.nil_append] at H;refine aC ⟨rfl,?_⟩;exact Cx (by kernel_rfl) (dO aJ dz) rfl HT Hb hG (fun j e h1 h2 h3=>hv j e h1 h2 h3) zS (rfl) H
  ·clear H;intro o_ dz aP a w G1 jv _ hc hG HT hv;obtain rfl:_=o_:=Option.some.inj jv;clear jv;have H:=HT;have H:=H.aN (hv 0 9 16 (by decide) (hc 9 (by decide)) rfl) rfl;have Hb:=H.full;have H:=Hb;clear hc;refine gQ MR MP [_,_,_] [_,_,_] H wn rfl rfl rfl rfl rfl (by intro i q h;match i,h with|0,h=>exact h|n+1,h=>simp at h) rfl rfl ?_;clear H;intro b17 a w OP H;refine aC ⟨rfl,b17,?_⟩;exact Cw (by kernel_rfl) rfl HT Hb hG (fun j e h1 h2 h3=>hv _ j e h1 h2 h3) (rfl) H
  ·clear H;intro o_ aJ aP a w G1 jv _ hc hG HT hv;obtain rfl:_=o_:=Option.some.inj jv;clear jv;have H:=HT;have H:=H.aN (hv (((none,0),[])) 4 11 (by decide) (hc 4 (by decide)) rfl) rfl;have H:=H.aN (hv (((none,0),[])) 10 17 (by decide) (hc 10 (by decide)) rfl) rfl;have Hb:=H.full;have H:=Hb;clear hc;refine mI (Li:=[_,_]) (Lo:=Lp) (news:=jG.cells ⟨⟨lit.toArray⟩,0,false⟩) MR MP rfl rfl H wn rfl rfl Pm rfl (H.hp.bT 0 rfl rfl) rfl (by omega) (by omega) rfl ?_;clear H;intro v18 afu a w Jp H;obtain ⟨A18,c18,rfl,-,-⟩:=Jp.shape;rw [← aci] at Jp;refine aC ⟨rfl,((A18,c18),afu),?_⟩;exact Cw (by kernel_rfl) rfl HT Hb hG (fun j e h1 h2 h3=>hv _ j e h1 h2 h3) (⟨rfl,Jp⟩) H
  clear H;intro b17 dz a w G iY H hv;have H:=H.aN (hv 0 7 rfl rfl) rfl;obtain ⟨u18,Vd,LM⟩:=hv 11 18 (by decide) rfl;(try dsimp only at LM);obtain ⟨rfl,Jp⟩:=LM;have H:=H.gI Vd;clear hv;refine kH H (Rk rfl (Rf Ol rfl ?_));clear H;intro a H;refine aY QH 1 (vs:=[_]) _ H wn rfl rfl rfl rfl rfl rfl rfl rfl ?_;clear H;intro w H;dsimp only [List.set,setRow] at H;refine aC ⟨rfl,?_⟩;refine K2 _ _ ?_;clear K2;refine kP H (SC (Rm rfl (Rk rfl (Rf KO rfl ?_))));clear H;intro a H;refine gK ajH (Li:=[_]) (L:=iq b s i p (.slice A lit.length c) (.slice dz.1.1 (parts.length+1) dz.1.2) pl e :: dz.2) H wn rfl (ato _ _ _ b s i p A lit.length c dz.1.1 (parts.length+1) dz.1.2 pl e (Hp.owns (Li:=[_]) H.hp)) rfl ?_;clear H;rintro v24 _ L24 a w ⟨rfl,rfl⟩ nX H;dsimp only [lca,bK] at H;refine aC ?_;refine (leave0 H results274 ?_).2
  first
   | exact H.hp.kZ (L':=iq b s i _ _ _ pl e :: dz.2) (Bd _ _) ⟨_,_,_,dz.2,[],by rw [fZ],⟨.inl rfl,bX.nil,by rw [vT,ah hne];simpa using Jp⟩⟩
   | exact H.hp.dM ⟨_,_,_,Lp,Lo,by rw [qK],by
     have h0:lit=[]:=by
      cases lit with
      | nil=>rfl
      | cons x r=>simp at p6
     subst h0;exact ⟨abq,hbuf,by rw [vT,ak rfl];exact Pm⟩⟩
 intro h6 a H
 try have p6:=dF h6
 refine iw ?_;refine (leave0 H results274 ?_).2
 first
  | exact H.hp.kZ (L':=iq b s i _ _ _ pl e :: dz.2) (Bd _ _) ⟨_,_,_,dz.2,[],by rw [fZ],⟨.inl rfl,bX.nil,by rw [vT,ah hne];simpa using Jp⟩⟩
  | exact H.hp.dM ⟨_,_,_,Lp,Lo,by rw [qK],by
    have h0:lit=[]:=by
     cases lit with
     | nil=>rfl
     | cons x r=>simp at p6
    subst h0;exact ⟨abq,hbuf,by rw [vT,ak rfl];exact Pm⟩⟩
theorem ada (G:GH) (Lp Lo:OL) (w0:World) (b:Nat) (s:ByteArray) (i:Int) (p v q:aj) (pl e:Int) (lit:List UInt8) (parts:List jG) (ch:Int) (plain:Bool) (hR:A9 b lit parts p v q Lp Lo) (hO:gG G (iq b s i p v q pl e :: (Lp++Lo)) w0) (hl:lit.length≤4294967296) (hp:parts.length≤4294967290) (hc:49≤ch∧ch≤57) (hpl:0≤pl∧pl≤4294967296) :
  Calls prog 278 #[(aM b 0),.int .u8 ch,.bool plain] w0 (fP w0 G (iq b s i p v q pl e :: (Lp++Lo)) fun u G' L'=>∃ p' v' q' rP lC,L'=iq b s i p' v' q' (pl+1) e :: (rP++lC)∧A9 b [] (vT lit parts++[⟨⟨#[]⟩,ch - 48,plain⟩]) p' v' q' rP lC):=by
 have hml:maxLen=9223372036854775807:=rfl
 have hfl:(vT lit parts).length≤parts.length+1:=by unfold vT;split <;> simp
 obtain ⟨A,c,rfl,abI,abJ⟩:=hR.buf.shape;obtain ⟨B,d,rfl,abr,abt⟩:=hR.prt.shape;obtain ⟨Lt,qK⟩:∃ x,x=Lp++Lo:=⟨_,rfl⟩;rw [← qK] at hO ⊢;refine jr (N:=29) (T:=[(0,_),(1,_),(2,_)]) func278 rfl ntmps278 rfl rfl hO ?_;intro a H;refine kP H (SR fun _ K1=>Rm rfl ?_);clear H;intro a H;refine gK SK (Li:=[]) (L:=iq b s i p (.slice A lit.length c) (.slice B parts.length d) pl e :: Lt) H wn rfl (by subst qK;exact TA _ Lp Lo _ b s i p _ _ pl e lit parts hR (Hp.owns (Li:=[]) H.hp) hl (by omega)) rfl ?_;clear H;rintro v7 G7 L7 a w ⟨p',v',q',rP,lC,rfl,KX⟩ BH H;dsimp only [List.nil_append] at H;obtain ⟨A7,c7,rfl,-,-⟩:=KX.buf.shape;obtain ⟨B7,d7,rfl,-,-⟩:=KX.prt.shape;refine K1 _ _ ?_;clear K1;refine kP H (SR fun _ K2=>Rm rfl (Rm rfl (Rk rfl (dU Ol QH 0 rfl rfl (Rm rfl ?_)))));clear H;intro a H;refine asj H wn rfl rfl (by omega) (by omega) rfl ?_;clear H;intro a H;refine BU _ lq JQ H wn rfl rfl rfl ?_;clear H;intro a H;rw [Gx (by omega) (by omega)] at H;refine kH H (Rm rfl ?_);clear H;intro a H;refine jl aec [_,_,_] H wn rfl rfl rfl rfl ?_;clear H;intro a H;refine gQ MR MP [_,_,_] [_,_,_] H wn rfl rfl rfl rfl rfl (by intro i q h;match i,h with|0,h=>exact h|n+1,h=>simp at h) rfl rfl ?_;clear H;intro b18 a w OQ H;have H:=(St.cast H (show _=[_,_]++(rP++lC) from rfl)).perm (List.Perm.append_left _ vG);have H:=St.un H;refine mI (Li:=[_,_]++lC) (Lo:=rP) (news:=jG.cells ⟨⟨#[]⟩,ch - 48,plain⟩) MR MP rfl rfl H wn rfl rfl KX.prt rfl (H.hp.bT 0 rfl rfl) rfl (by omega) (by omega) rfl ?_;clear H;intro v19 XQ a w yX H;obtain ⟨Hy,c19,rfl,-,-⟩:=yX.shape;rw [← aci] at yX;have H:=H.assoc.perm (List.Perm.append_left _ vG);dsimp only [lca,bK] at H;refine kH H (Rk rfl (Rf Ol rfl ?_));clear H;intro a H;refine aY QH 1 (vs:=[_]) _ H wn rfl rfl rfl rfl rfl rfl rfl rfl ?_;clear H;intro w H;dsimp only [List.set,setRow] at H;refine K2 _ _ ?_;clear K2;refine kP H (SC (Rm rfl (Rk rfl (dU Om aT 1 rfl rfl (Rd rfl (Rk rfl (Rf Om rfl ?_)))))));clear H;intro a H;refine aY aT 1 (vs:=[_]) _ H wn rfl rfl rfl rfl rfl rfl rfl rfl ?_;clear H;intro w H;dsimp only [List.set,setRow] at H;refine aC ?_;refine (leave0 H results278 ?_).2;exact H.hp.kZ (L':=iq b s i _ _ _ (pl+1) e :: (XQ++lC)) (Bd _ _) ⟨_,_,_,XQ,lC,rfl,KX.ptr,KX.buf,by simpa using yX⟩
section
section
variable {N:Nat} {D:List Deferred} {w0:World} {F:Nat→Prop} {G0 G:GH} {L:OL} {T Xs:List (Nat × aj)}
variable {r:Option Nat} {P:Program} {Q:Exit→Act→World→Prop} {l:List Oper} {a a':Act} {w w':World}
abbrev Xu:Type:=Nat × aj × Nat × Bool
def Xv (ent:List Xu) (S:Nat→Bool) (a:Act):Prop:=∀ e∈ent,S e.2.2.1=e.2.2.2→a.tmps[e.1]?=some e.2.1
theorem Xv.at {ent:List Xu} {S:Nat→Bool} {a:Act} (h:Xv ent S a) (k:Nat) {t:Nat} {v:aj} {j:Nat} {b:Bool} (hk:ent[k]?=some (t,v,j,b)) (hS:S j=b):a.tmps[t]?=some v:=h _ (kT hk) hS
theorem asi {ops:Array Oper} {rest:List Oper} {d:Nat} {ty:TypeId} {pos:String} {aO:Array Edge} {g:Option (Nat × Bool)} {t:TypeId} {x y:Operand} {s:ByteArray} {ky:IntKind} {p:Int} (hi:Nat) (ht:P.underlying t=some .string) (H:St N D w0 F G0 G L T a w) (hw:Region.wanted ⟨some d,.slice t x none (some y) none,ty,pos,aO,g⟩ (yielded ops a.tmps)=true) (hx:ev T x=some (.string s)) (hy:ev T y=some (.int ky p)) (hp:p=(hi:Int)) (h1:hi≤s.size) (hd:Nat.blt d N=true)
  (k:∀ a',St N D w0 F G0 G L ((d,.string (s.extract 0 hi)) :: T) a' w→WL r P ops Q rest a' w):WL r P ops Q (⟨some d,.slice t x none (some y) none,ty,pos,aO,g⟩ :: rest) a w:=by
 subst hp
 have hr:=run_slice_string_h (P:=P) w t s ht ky (hi:Int) (by omega) (by omega)
 rw [Int.toNat_natCast] at hr
 refine fF (v:=.string (s.extract 0 hi)) (w':=w) hw rfl ?_ (k _ (H.put hd _ H.hp))
 simp only [execOp,H.ev hx,vE,Option.map_none,H.ev hy,dV,run_sliceAt_string w t _ _ _ _ ht,hr,mR,sN]
end
end
theorem ajI:∀ args w,(callFunc 281 args).run prog w=.ok (.enter 281 args) w:=enters func281 rfl (by kernel_rfl)
instance xO:dR prog 340 0 0:=⟨by kernel_rfl⟩
theorem Zu:∀ args w,(callFunc 273 args).run prog w=.ok (.enter 273 args) w:=enters func273 rfl (by kernel_rfl)
theorem Zv:∀ args w,(callFunc 277 args).run prog w=.ok (.enter 277 args) w:=enters func277 rfl (by kernel_rfl)
theorem Zw:∀ args w,(callFunc 278 args).run prog w=.ok (.enter 278 args) w:=enters func278 rfl (by kernel_rfl)
instance qX:dR prog 340 1 1:=⟨by kernel_rfl⟩
theorem SL:∀ args w,(callFunc 276 args).run prog w=.ok (.enter 276 args) w:=enters func276 rfl (by kernel_rfl)
instance CB:dR prog 340 5 6:=⟨by kernel_rfl⟩
def sU (s p:ByteArray):Bool:=decide (p.size≤s.size) && ((s.extract 0 p.size).toList == p.toList)
theorem amk (G:GH) (w0:World) (hG:Hold G w0) (s p:ByteArray) (hs:s.size≤4611686018427387904) (hp:p.size≤4611686018427387904):Calls prog 281 #[.string s,.string p] w0 (bB w0 G fun u G'=>u=.bool (sU s p)∧G=G'):=by
 refine eN [(0,_),(1,_)] func281 rfl ntmps281 rfl rfl hG ?_;intro a H;refine kP H (SR fun _ K1=>aF K1 rfl (SR fun _ K2=>Rm rfl (Rv jB rfl (Rm rfl (Rv jB rfl (Rc rfl (Rm rfl (Sp 10 rfl ?_ ?_)))))))) <;> clear H K1
 ·intro h10 a H
  try have iU:=dT h10
  refine kH H (YM h10 rfl (YM h10 rfl ?_));clear H;intro a H;refine ES jB H (wg H rfl rfl h10) rfl rfl ?_;clear H;intro a H;refine asi p.size jB H (wg H rfl rfl h10) rfl rfl rfl (by omega) rfl ?_;clear H;intro a H;refine kH H (YM h10 rfl ?_);clear H;intro a H;refine BZ H (wg H rfl rfl h10) rfl rfl rfl ?_;clear H;intro a H;exact kH H (Pt h10 rfl (aF K2 rfl (LR results281 rfl fun H=>H.rt ⟨dG (by unfold sU;first|(simp_all;done)|(simp_all;omega)),rfl⟩)))
 intro h10 a H
 try have iU:=dF h10
 exact kH H (fB h10 rfl (fB h10 rfl (Pf h10 rfl (aF K2 rfl (LR results281 rfl fun H=>H.rt ⟨dG (by unfold sU;first|(simp_all;done)|(simp_all;omega)),rfl⟩)))))
theorem Uw (G:GH) (w0:World) (hG:Hold G w0) (s p:ByteArray) (hs:s.size≤4611686018427387904) (hp:p.size≤4611686018427387904):Calls prog 276 #[.string s,.string p] w0 (bB w0 G fun u G'=>u=.bool (sU s p)∧G=G'):=by
 refine eN [(0,_),(1,_)] func276 rfl ntmps276 rfl rfl hG ?_;intro a H;refine kP H (SR fun _ K1=>aF K1 rfl (SR fun _ K2=>Rm rfl (Rm rfl ?_)));clear H K1;intro a H;refine s_call ajI H wn rfl (amk _ _ H.ro s p hs hp) rfl ?_;clear H;rintro v7 _ a w ⟨rfl,rfl⟩ - H;exact kH H (aF K2 rfl (LR results276 rfl fun H=>H.rt ⟨rfl,rfl⟩))
def vK (s:ByteArray) (k:Nat):Bool:=decide (k < s.size) && decide (49≤gH s k) && decide (gH s k≤57)
theorem Y0 (G:GH) (L:OL) (w0:World) (b:Nat) (s:ByteArray) (i:Int) (p v q:aj) (pl e:Int) (k:Nat) (hs:s.size≤4611686018427387904) (hO:gG G (iq b s i p v q pl e :: L) w0) :
  Calls prog 277 #[(aM b 0),vi k] w0 (fP w0 G (iq b s i p v q pl e :: L) fun u G' L'=>u=.bool (vK s k)∧L'=iq b s i p v q pl e :: L∧G'=G):=by
 refine jr (N:=30) (T:=[(0,_),(1,_)]) func277 rfl ntmps277 rfl rfl hO ?_;intro a H;refine kP H (SR fun _ K1=>aF K1 rfl (SR fun _ K2=>Rm rfl (Rm rfl (Rk rfl (dU xO kR 0 rfl rfl (Rv jB rfl (Rc rfl (Rm rfl (Sp 12 rfl ?_ ?_))))))))) <;> clear H K1
 ·intro h12 a H
  try have qo:=dT h12
  refine kH H (YM h12 rfl ?_);clear H;intro a H;refine vg H (wg H rfl rfl h12) rfl rfl ?_;clear H;intro a H;refine kH H (YF xO h12 rfl (YO kR 0 h12 rfl (YM h12 rfl ?_)));clear H;intro a H;refine qx k jB H (wg H rfl rfl h12) rfl rfl rfl (by omega) rfl ?_;clear H;intro a H;rw [← mD] at H;refine kH H (YC h12 rfl (Pt h12 rfl (Rm rfl (Sp 21 rfl ?_ ?_)))) <;> clear H
  ·intro h21 a H
   try have Dm:=dT h21
   refine kH H (YM h21 rfl ?_);clear H;intro a H;refine vg H (wg H rfl rfl h21) rfl rfl ?_;clear H;intro a H;refine kH H (YF xO h21 rfl (YO kR 0 h21 rfl (YM h21 rfl ?_)));clear H;intro a H;refine qx k jB H (wg H rfl rfl h21) rfl rfl rfl (by omega) rfl ?_;clear H;intro a H;rw [← mD] at H;exact kH H (YC h21 rfl (Pt h21 rfl (aF K2 rfl (LR results277 rfl fun H=>H.hp.dM ⟨dG (by unfold vK;first|(simp_all;done)|(simp_all;omega)),rfl,rfl⟩))))
  intro h21 a H
  try have Dm:=dF h21
  exact kH H (fB h21 rfl (fU h21 rfl (fU h21 rfl (Pf h21 rfl (aF K2 rfl (LR results277 rfl fun H=>H.hp.dM ⟨dG (by unfold vK;first|(simp_all;done)|(simp_all;omega)),rfl,rfl⟩))))))
 intro h12 a H
 try have qo:=dF h12
 exact kH H (fB h12 rfl (fU h12 rfl (fU h12 rfl (Pf h12 rfl (Rm rfl (fB rfl rfl (fU rfl rfl (fU rfl rfl (Pf rfl rfl (aF K2 rfl (LR results277 rfl fun H=>H.hp.dM ⟨dG (by unfold vK;first|(simp_all;done)|(simp_all;omega)),rfl,rfl⟩)))))))))))
structure vC where
 i:Nat
 lit:List UInt8
 parts:List jG
 pl:Nat
 e:Int
def qw (s:ByteArray) (x:vC):vC :=
 if sU (s.extract x.i s.size) ⟨#[37,37]⟩=true then ⟨x.i+2,x.lit++[37],x.parts,x.pl,x.e⟩
 else if vK s (x.i+1)=true then ⟨x.i+2,[],vT x.lit x.parts++[⟨⟨#[]⟩,gH s (x.i+1) - 48,false⟩],x.pl+1,x.e⟩
 else if sU (s.extract x.i s.size) ⟨#[37,100]⟩=true∧vK s (x.i+2)=true then ⟨x.i+3,[],vT x.lit x.parts++[⟨⟨#[]⟩,gH s (x.i+2) - 48,true⟩],x.pl+1,x.e⟩
 else ⟨x.i,x.lit,x.parts,x.pl,14⟩
abbrev xA (b:Nat) (s:ByteArray) (x:vC) (p v q:aj):Nat × Obj:=iq b s x.i p v q x.pl x.e
theorem YZ {s:ByteArray} {k:Nat} (h:vK s k=true):k < s.size∧49≤gH s k∧gH s k≤57:=by
 simpa [vK,and_assoc] using h
theorem aqw (G:GH) (Lp Lo:OL) (w0:World) (b:Nat) (s:ByteArray) (x:vC) (p v q:aj) (hR:A9 b x.lit x.parts p v q Lp Lo) (hO:gG G (xA b s x p v q :: (Lp++Lo)) w0) (hs:s.size≤4294967290) (hi:x.i < s.size) (hl:x.lit.length≤4294967290) (hp:x.parts.length≤4294967290) (hpl:x.pl≤4294967290) :
    Calls prog 272 #[(aM b 0)] w0 (fP w0 G (xA b s x p v q :: (Lp++Lo)) fun u G' L'=>∃ p' v' q' rP lC,L'=xA b s (qw s x) p' v' q' :: (rP++lC)∧A9 b (qw s x).lit (qw s x).parts p' v' q' rP lC):=by
  obtain ⟨i,lit,parts,pl,e⟩:=x;dsimp only [xA] at *
  have hex:(s.extract i s.size).size≤4611686018427387904:=by rw [ByteArray.size_extract];omega
  obtain ⟨A,c,rfl,abI,abJ⟩:=hR.buf.shape;obtain ⟨B,d,rfl,abr,abt⟩:=hR.prt.shape;obtain ⟨Lt,qK⟩:∃ x,x=Lp++Lo:=⟨_,rfl⟩;rw [← qK] at hO ⊢;refine jr (N:=93) (T:=[(0,_)]) func272 rfl ntmps272 rfl rfl hO ?_;intro a H;refine Kq ?_;refine eY (fun _ K1=>?_);refine dI hmx [[],[0],[0,1],[0,1,2],[],[4],[4,5],[4,5,6],(ra 0 8),(ra 0 9),(ra 0 10)] [] (by kernel_rfl) [_,_,_,.string s,_,_,_,vi i,.string (s.extract i s.size),.bool (sU (s.extract i s.size) ⟨#[37,37]⟩),_] H (aD (Z0 rfl (Rm rfl)) (Z1 0 6 rfl (Rk rfl)) (Z1 1 7 rfl (Rf xO rfl)) (Z1 2 8 rfl (Ro kR 0 rfl)) (aD (Z0 rfl (Rm rfl)) (Z1 4 10 rfl (Rk rfl)) (Z1 5 11 rfl (Rf qX rfl)) (Z1 6 12 rfl (Ro aT 0 rfl)) (bM ?_ (bM ?_ (bM (Z1 9 15 rfl (Ra rfl)) cO))))) ?_
  · refine dL 3 9 7 13 rfl rfl fun _ a w G1 hG HT H fin=>?_;refine WC i jB H wn rfl rfl rfl (by omega) rfl ?_;clear H;intro a H;exact fin H iJ rfl
  · refine eu 8 14 rfl rfl fun _ a w G1 hG HT H fin=>?_;refine s_call SL H wn rfl (Uw _ _ H.ro _ _ hex (by decide)) rfl ?_;clear H;rintro v15 Cn a w ⟨rfl,rfl⟩ zS H;exact fin H zS (rfl)
  clear H;intro a w G iY H hv;have H:=H.aN (hv 10 5 rfl rfl) rfl;clear hv;refine aC ⟨rfl,?_⟩;refine K1 _ _ ?_;clear K1;refine mW H rfl ?_ ?_
  · intro h5
    try have p5:=dT h5
    refine kP H (SR fun _ K2=>Rm rfl (Rk rfl (Rf KO rfl ?_)));clear H;intro a H;refine gK Zu (Li:=[]) (L:=iq b s i p (.slice A lit.length c) (.slice B parts.length d) pl e :: Lt) H wn rfl (by subst qK;exact aeN _ Lp Lo _ b s i p _ B parts.length d pl e lit.length _ 37 hR.ptr (Hp.owns (Li:=[]) H.hp) hR.buf (by omega)) rfl ?_;clear H;rintro v19 _ L19 a w ⟨avP,Fq,rfl,yX,rfl⟩ rW H;dsimp only [List.nil_append] at H;obtain ⟨Hy,c19,rfl,-,-⟩:=yX.shape;refine K2 _ _ ?_;clear K2;refine kP H (SC (Rm rfl (Rk rfl (dU qX aT 0 rfl rfl (Rd rfl (Rk rfl (Rf qX rfl ?_)))))));clear H;intro a H;refine aY aT 0 (vs:=[_]) _ H wn rfl rfl rfl rfl rfl rfl rfl rfl ?_;clear H;intro w H;dsimp only [List.set,setRow] at H;refine aC ?_;refine (leave0 H results272 ?_).2;exact H.hp.dM ⟨_,_,_,Lp,Fq,by rw [qw,ak h5];rfl,by rw [qw,ak h5];exact ⟨.inr rfl,by simpa [Lib.byteCells] using yX,hR.prt⟩⟩
  intro h5
  try have p5:=dF h5
  refine kP H (SR fun _ K3=>Rm rfl (Rm rfl (Rk rfl (dU qX aT 0 rfl rfl (Rd rfl ?_)))));clear H;intro a H;rw [show ((i:Int)+1)=((i+1:Nat):Int) from rfl] at H;refine gK Zv (Li:=[]) (L:=iq b s i p (.slice A lit.length c) (.slice B parts.length d) pl e :: Lt) H wn rfl (Y0 _ Lt _ b s i p _ _ pl e (i+1) (by omega) (Hp.owns (Li:=[]) H.hp)) rfl ?_;clear H;rintro v34 _ L34 a w ⟨rfl,rfl,rfl⟩ Jb H;dsimp only [List.nil_append] at H;refine kH H (aF K3 rfl (Cd rfl ?_ ?_)) <;> clear H K3
  · intro h27 a H
    try have p27:=dT h27
    have hd1:=YZ h27;refine eY (fun _ K4=>?_);refine dI hmx [[],[],[1],[1,2],[1,2,3],[],[5],[5,6],[5,6,7],(ra 5 4),(ra 1 9),(ra 0 11)] [11] (by kernel_rfl) [_,_,_,_,.string s,_,_,_,vi i,_,.int .u8 (gH s (i+1))] H (aD (Z0 rfl (Rm rfl)) (Z0 rfl (Rm rfl)) (Z1 1 36 rfl (Rk rfl)) (Z1 2 37 rfl (Rf xO rfl)) (aD (Z1 3 38 rfl (Ro kR 0 rfl)) (Z0 rfl (Rm rfl)) (Z1 5 40 rfl (Rk rfl)) (Z1 6 41 rfl (Rf qX rfl)) (aD (Z1 7 42 rfl (Ro aT 0 rfl)) (Z1 8 43 rfl (Rd rfl)) ?_ (bS rfl) cO))) ?_
    · refine dL 4 39 9 44 rfl rfl fun _ a w G1 hG HT H fin=>?_;refine qx (i+1) jB H wn rfl rfl rfl hd1.1 rfl ?_;clear H;intro a H;rw [← mD] at H;exact fin H iJ rfl
    clear H;intro a w G lZ H hv;have H:=H.aN (hv 0 35 rfl rfl) rfl;have H:=H.aN (hv 10 45 rfl rfl) rfl;clear hv;refine gK Zw (Li:=[]) (L:=iq b s i p (.slice A lit.length c) (.slice B parts.length d) pl e :: Lt) H wn rfl (by subst qK;exact ada _ Lp Lo _ b s i p _ _ pl e lit parts (gH s (i+1)) false hR (Hp.owns (Li:=[]) H.hp) (by omega) (by omega) hd1.2 (by omega)) rfl ?_;clear H;rintro v46 Q8 L46 a w ⟨p46,atT,q46,Kg,Ke,rfl,CP⟩ aaT H;dsimp only [List.nil_append] at H;obtain ⟨A46,c46,rfl,-,-⟩:=CP.buf.shape;obtain ⟨B46,d46,rfl,-,-⟩:=CP.prt.shape;refine aC ⟨rfl,?_⟩;refine K4 _ _ ?_;clear K4;refine kP H (SC (Rm rfl (Rk rfl (dU qX aT 0 rfl rfl (Rd rfl (Rk rfl (Rf qX rfl ?_)))))));clear H;intro a H;refine aY aT 0 (vs:=[_]) _ H wn rfl rfl rfl rfl rfl rfl rfl rfl ?_;clear H;intro w H;dsimp only [List.set,setRow] at H;refine aC ?_;refine (leave0 H results272 ?_).2;exact H.hp.dM ⟨_,_,_,Kg,Ke,by rw [qw,ah (by simp [h5]),ak h27];rfl,by rw [qw,ah (by simp [h5]),ak h27];exact CP⟩
  intro h27 a H
  try have p27:=dF h27
  refine eY (fun _ K5=>?_)
  by_cases c1:sU (s.extract i s.size) ⟨#[37,100]⟩=true
  · skip;refine dI hmx [[],[0],[0,1],[0,1,2],[],[4],[4,5],[4,5,6],(ra 0 8),(ra 0 9),(ra 0 10),(ra 0 11),(ra 0 11),(ra 0 11++[12]),(ra 0 11++[12,13]),(ra 0 11++[12,13,14]),(ra 0 11++ra 12 4),(ra 0 17),(ra 0 18),(ra 0 19)] [] (by kernel_rfl) [_,_,_,.string s,_,_,_,vi i,.string (s.extract i s.size),.bool (sU (s.extract i s.size) ⟨#[37,100]⟩),.bool (decide (sU (s.extract i s.size) ⟨#[37,100]⟩=true)),_,_,(aM b 0),_,vi i,vi ((i+2:Nat):Int),.bool (vK s (i+2)),_,_] H (aD (Z0 rfl (Rm rfl)) (Z1 0 55 rfl (Rk rfl)) (Z1 1 56 rfl (Rf xO rfl)) (Z1 2 57 rfl (Ro kR 0 rfl)) (aD (Z0 rfl (Rm rfl)) (Z1 4 59 rfl (Rk rfl)) (Z1 5 60 rfl (Rf qX rfl)) (Z1 6 61 rfl (Ro aT 0 rfl)) (aD ?_ ?_ ?_ (Z1 10 65 rfl (YM (aI c1) rfl)) (aD (Z1 10 65 rfl (YM (aI c1) rfl)) ?_ (Z2 13 68 10 65 rfl (YF qX (aI c1) rfl)) (Z2 14 69 10 65 rfl (YO aT 0 (aI c1) rfl)) (aD ?_ ?_ (Z2 10 65 17 72 rfl (Pt (aI c1) rfl)) (Z1 18 73 rfl (Ra rfl)) cO))))) ?_
    · refine dL 3 58 7 62 rfl rfl fun _ a w G1 hG HT H fin=>?_;refine WC i jB H wn rfl rfl rfl (by omega) rfl ?_;clear H;intro a H;exact fin H iJ rfl
    · refine eu 8 63 rfl rfl fun _ a w G1 hG HT H fin=>?_;refine s_call SL H wn rfl (Uw _ _ H.ro _ _ hex (by decide)) rfl ?_;clear H;rintro v64 G64 a w ⟨rfl,rfl⟩ Uj H;exact fin H Uj (rfl)
    · refine eu 9 64 rfl rfl fun _ a w G1 hG HT H fin=>?_;refine kH H (Rm rfl ?_);clear H;intro a H;exact fin H iJ (by show _=_;simp)
    · refine dL 12 67 10 65 rfl rfl fun _ a w G1 hG HT H fin=>?_;refine vg H (wg H rfl rfl (aI c1)) rfl rfl ?_;clear H;intro a H;exact fin H iJ rfl
    · refine dL 15 70 10 65 rfl rfl fun _ a w G1 hG HT H fin=>?_;refine MG _ H (wg H rfl rfl (aI c1)) rfl rfl rfl (by omega) (by omega) rfl ?_;clear H;intro a H;exact fin H iJ rfl
    · refine yL 11 66 16 71 10 65 rfl rfl fun _ a w G1 hG HT H fin=>?_;refine gK Zv (Li:=[]) (L:=iq b s i p (.slice A lit.length c) (.slice B parts.length d) pl e :: Lt) H (wg H rfl rfl (aI c1)) rfl (Y0 _ Lt _ b s i p _ _ pl e (i+2) (by omega) (Hp.owns (Li:=[]) H.hp)) rfl ?_;clear H;rintro v72 G72 L72 a w ⟨rfl,rfl,rfl⟩ alP H;dsimp only [List.nil_append] at H;exact fin H alP (rfl)
    clear H;intro a w G KW H hv;have H:=H.aN (hv 19 54 rfl rfl) rfl;clear hv;refine aC ⟨rfl,?_⟩;refine K5 _ _ ?_;clear K5;refine mW H rfl ?_ ?_
    · intro ng
      try have p54:=dT ng
      have hd2:=YZ ng;refine eY (fun _ K6=>?_);refine dI hmx [[],[],[1],[1,2],[1,2,3],[],[5],[5,6],[5,6,7],(ra 5 4),(ra 1 9),(ra 0 11)] [11] (by kernel_rfl) [_,_,_,_,.string s,_,_,_,vi i,_,.int .u8 (gH s (i+2))] H (aD (Z0 rfl (Rm rfl)) (Z0 rfl (Rm rfl)) (Z1 1 75 rfl (Rk rfl)) (Z1 2 76 rfl (Rf xO rfl)) (aD (Z1 3 77 rfl (Ro kR 0 rfl)) (Z0 rfl (Rm rfl)) (Z1 5 79 rfl (Rk rfl)) (Z1 6 80 rfl (Rf qX rfl)) (aD (Z1 7 81 rfl (Ro aT 0 rfl)) (Z1 8 82 rfl (Rd rfl)) ?_ (bS rfl) cO))) ?_
      · refine dL 4 78 9 83 rfl rfl fun _ a w G1 hG HT H fin=>?_;refine qx (i+2) jB H wn rfl rfl rfl hd2.1 rfl ?_;clear H;intro a H;rw [← mD] at H;exact fin H iJ rfl
      clear H;intro a w G oM H hv;have H:=H.aN (hv 0 74 rfl rfl) rfl;have H:=H.aN (hv 10 84 rfl rfl) rfl;clear hv;refine gK Zw (Li:=[]) (L:=iq b s i p (.slice A lit.length c) (.slice B parts.length d) pl e :: Lt) H wn rfl (by subst qK;exact ada _ Lp Lo _ b s i p _ _ pl e lit parts (gH s (i+2)) true hR (Hp.owns (Li:=[]) H.hp) (by omega) (by omega) hd2.2 (by omega)) rfl ?_;clear H;rintro v85 G85 L85 a w ⟨p46,atT,q46,Kg,Ke,rfl,CP⟩ avq H;dsimp only [List.nil_append] at H;obtain ⟨A46,c46,rfl,-,-⟩:=CP.buf.shape;obtain ⟨B46,d46,rfl,-,-⟩:=CP.prt.shape;refine aC ⟨rfl,?_⟩;refine K6 _ _ ?_;clear K6;refine kP H (SC (Rm rfl (Rk rfl (dU qX aT 0 rfl rfl (Rd rfl (Rk rfl (Rf qX rfl ?_)))))));clear H;intro a H;refine aY aT 0 (vs:=[_]) _ H wn rfl rfl rfl rfl rfl rfl rfl rfl ?_;clear H;intro w H;dsimp only [List.set,setRow] at H;refine aC ?_;refine (leave0 H results272 ?_).2
      have wY:¬ sU (s.extract i s.size) ⟨#[37,37]⟩=true:=by simp [h5]
      have wX:¬ vK s (i+1)=true:=by simp [h27]
      first
        | exact H.hp.dM ⟨_,_,_,Kg,Ke,by rw [qw,ah wY,ah wX,ak ⟨c1,ng⟩];rfl,by rw [qw,ah wY,ah wX,ak ⟨c1,ng⟩];exact CP⟩
        | (have EA:¬ (sU (s.extract i s.size) ⟨#[37,100]⟩=true∧vK s (i+2)=true):=by simp_all
           exact H.hp.dM ⟨_,_,_,Lp,Lo,by rw [qw,ah wY,ah wX,ah EA,qK],by rw [qw,ah wY,ah wX,ah EA];exact hR⟩)
    intro ng
    try have p54:=dF ng
    refine kP H (SC (Rm rfl (Rk rfl (Rf CB rfl ?_))));clear H;intro a H;refine aY iD 0 (vs:=[_]) _ H wn rfl rfl rfl rfl rfl rfl rfl rfl ?_;clear H;intro w H;dsimp only [List.set,setRow] at H;refine aC ?_;refine (leave0 H results272 ?_).2
    have wY:¬ sU (s.extract i s.size) ⟨#[37,37]⟩=true:=by simp [h5]
    have wX:¬ vK s (i+1)=true:=by simp [h27]
    first
      | exact H.hp.dM ⟨_,_,_,Kg,Ke,by rw [qw,ah wY,ah wX,ak ⟨c1,ng⟩];rfl,by rw [qw,ah wY,ah wX,ak ⟨c1,ng⟩];exact CP⟩
      | (have EA:¬ (sU (s.extract i s.size) ⟨#[37,100]⟩=true∧vK s (i+2)=true):=by simp_all
         exact H.hp.dM ⟨_,_,_,Lp,Lo,by rw [qw,ah wY,ah wX,ah EA,qK],by rw [qw,ah wY,ah wX,ah EA];exact hR⟩)
  skip;refine dI hmx [[],[0],[0,1],[0,1,2],[],[4],[4,5],[4,5,6],(ra 0 8),(ra 0 9),(ra 0 10),(ra 0 11),(ra 0 11),(ra 0 11++[12]),(ra 0 11++[12,13]),(ra 0 11++[12,13,14]),(ra 0 11++ra 12 4),(ra 0 17),(ra 0 18),(ra 0 19)] [] (by kernel_rfl) [_,_,_,.string s,_,_,_,vi i,.string (s.extract i s.size),.bool (sU (s.extract i s.size) ⟨#[37,100]⟩),.bool (decide (sU (s.extract i s.size) ⟨#[37,100]⟩=true)),undef,undef,undef,undef,undef,undef,undef,_,_] H (aD (Z0 rfl (Rm rfl)) (Z1 0 55 rfl (Rk rfl)) (Z1 1 56 rfl (Rf xO rfl)) (Z1 2 57 rfl (Ro kR 0 rfl)) (aD (Z0 rfl (Rm rfl)) (Z1 4 59 rfl (Rk rfl)) (Z1 5 60 rfl (Rf qX rfl)) (Z1 6 61 rfl (Ro aT 0 rfl)) (aD ?_ ?_ ?_ (aW 10 (aX c1) rfl rfl) (aD (aW 10 (aX c1) rfl rfl) (aW 10 (aX c1) rfl rfl) (aW 10 (aX c1) rfl rfl) (aW 10 (aX c1) rfl rfl) (aD (aW 10 (aX c1) rfl rfl) (aW 10 (aX c1) rfl rfl) (Z2 10 65 17 72 rfl (Pf (aX c1) rfl)) (Z1 18 73 rfl (Ra rfl)) cO))))) ?_
  · refine dL 3 58 7 62 rfl rfl fun _ a w G1 hG HT H fin=>?_;refine WC i jB H wn rfl rfl rfl (by omega) rfl ?_;clear H;intro a H;exact fin H iJ rfl
  · refine eu 8 63 rfl rfl fun _ a w G1 hG HT H fin=>?_;refine s_call SL H wn rfl (Uw _ _ H.ro _ _ hex (by decide)) rfl ?_;clear H;rintro v64 G64 a w ⟨rfl,rfl⟩ Uj H;exact fin H Uj (rfl)
  · refine eu 9 64 rfl rfl fun _ a w G1 hG HT H fin=>?_;refine kH H (Rm rfl ?_);clear H;intro a H;exact fin H iJ (by show _=_;simp)
  clear H;intro a w G KW H hv;have H:=H.aN (hv 19 54 rfl rfl) rfl;clear hv;refine aC ⟨rfl,?_⟩;refine K5 _ _ ?_;clear K5;refine zJ H rfl rfl ?_;refine kP H (SC (Rm rfl (Rk rfl (Rf CB rfl ?_))));clear H;intro a H;refine aY iD 0 (vs:=[_]) _ H wn rfl rfl rfl rfl rfl rfl rfl rfl ?_;clear H;intro w H;dsimp only [List.set,setRow] at H;refine aC ?_;refine (leave0 H results272 ?_).2
  have wY:¬ sU (s.extract i s.size) ⟨#[37,37]⟩=true:=by simp [h5]
  have wX:¬ vK s (i+1)=true:=by simp [h27]
  first
    | exact H.hp.dM ⟨_,_,_,Kg,Ke,by rw [qw,ah wY,ah wX,ak ⟨c1,ng⟩];rfl,by rw [qw,ah wY,ah wX,ak ⟨c1,ng⟩];exact CP⟩
    | (have EA:¬ (sU (s.extract i s.size) ⟨#[37,100]⟩=true∧vK s (i+2)=true):=by simp_all
       exact H.hp.dM ⟨_,_,_,Lp,Lo,by rw [qw,ah wY,ah wX,ah EA,qK],by rw [qw,ah wY,ah wX,ah EA];exact hR⟩)
theorem ajF:∀ args w,(callFunc 272 args).run prog w=.ok (.enter 272 args) w:=enters func272 rfl (by kernel_rfl)
def NJ (s:ByteArray) (i:Nat):UInt8:=if h:i < s.size then s[i] else 0
theorem afK (s:ByteArray) (i:Nat):gH s i=((NJ s i).toNat:Int):=by
 unfold gH NJ;split <;> rfl
def pO (s:ByteArray) (x:vC):vC:=if gH s x.i=37 then qw s x else ⟨x.i+1,x.lit++[NJ s x.i],x.parts,x.pl,x.e⟩
def Dr (s:ByteArray):Nat→vC→vC
 | 0,x=>x
 | f+1,x=>if x.i < s.size∧x.e=0 then Dr s f (pO s x) else x
def mS (s:ByteArray) (x:vC):Nat:=if x.e=0 then s.size - x.i else 0
theorem adT {s:ByteArray} {f:Nat} {x:vC} (h:¬ (x.i < s.size∧x.e=0)):Dr s f x=x:=by
 cases f with
 | zero=>rfl
 | succ f=>rw [Dr,ah h]
theorem aln (lit:List UInt8) (parts:List jG):(vT lit parts).length≤parts.length+1:=by unfold vT;split <;> simp
theorem aei (s:ByteArray) (x:vC) (h:x.i < s.size∧x.e=0) (h1:x.lit.length≤x.i) (h2:x.parts.length≤2*x.i) (h3:x.pl≤x.i) :
  (pO s x).i≤x.i+3∧(pO s x).lit.length≤(pO s x).i∧(pO s x).parts.length≤2*(pO s x).i∧(pO s x).pl≤(pO s x).i∧mS s (pO s x) < mS s x∧mS s x≤s.size:=by
 have hf:=aln x.lit x.parts;have hm:mS s x=s.size - x.i:=ak h.2
 unfold pO qw
 split
 ·split
  ·refine ⟨?_,?_,?_,?_,?_,?_⟩ <;> simp only [mS,iM,kU,List.length_nil] at*<;> simp only [h.2,if_true] at*<;> omega
  split
  ·refine ⟨?_,?_,?_,?_,?_,?_⟩ <;> simp only [mS,iM,kU,List.length_nil] at*<;> simp only [h.2,if_true] at*<;> omega
  split
  ·refine ⟨?_,?_,?_,?_,?_,?_⟩ <;> simp only [mS,iM,kU,List.length_nil] at*<;> simp only [h.2,if_true] at*<;> omega
  refine ⟨?_,?_,?_,?_,?_,?_⟩ <;> simp only [mS,iM,kU,List.length_nil] at*<;> simp only [h.2,if_true] at*<;> (try omega) <;> (simp;omega)
 refine ⟨?_,?_,?_,?_,?_,?_⟩ <;> simp only [mS,iM,kU,List.length_nil] at*<;> simp only [h.2,if_true] at*<;> omega
def Ca:vC:=⟨0,[],[],0,0⟩
def lg (s:ByteArray):vC:=Dr s s.size Ca
def vk (x:vC):Int:=if x.e=0∧9 < (x.pl:Int) then 9 else x.e
theorem asv (G:GH) (Ns Nr:OL) (w0:World) (b:Nat) (s:ByteArray) (p0 v0 q0:aj) (hR:A9 b [] [] p0 v0 q0 Ns Nr) (hO:gG G (xA b s Ca p0 v0 q0 :: (Ns++Nr)) w0) (hs:s.size≤1073741824) :
  Calls prog 266 #[(aM b 0)] w0 (fP w0 G (xA b s Ca p0 v0 q0 :: (Ns++Nr)) fun u G' L'=>∃ p' v' q' rP lC,L'=iq b s (lg s).i p' v' q' (lg s).pl (vk (lg s)) :: (rP++lC)∧A9 b [] (vT (lg s).lit (lg s).parts) p' v' q' rP lC):=by
 obtain ⟨A0,c0,rfl,-,-⟩:=hR.buf.shape;obtain ⟨B0,d0,rfl,-,-⟩:=hR.prt.shape;refine jr (N:=68) (T:=[(0,_)]) func266 rfl ntmps266 rfl rfl hO ?_;intro a H;refine eY (fun _ K1=>?_);refine Kq ?_;skip;refine eH (ι:=Nat × vC × aj × Option Addr × Nat × Option Addr × Nat × OL × OL × GH) (Tc:=[(0,_)]) (Lc:=[]) (fun gh=>[]) (fun gh=>[xA b s gh.2.1 gh.2.2.1 (.slice gh.2.2.2.1 gh.2.1.lit.length gh.2.2.2.2.1) (.slice gh.2.2.2.2.2.1 gh.2.1.parts.length gh.2.2.2.2.2.2.1)]++(gh.2.2.2.2.2.2.2.1++gh.2.2.2.2.2.2.2.2.1)) (fun gh=>gh.2.2.2.2.2.2.2.2.2) (fun gh=>A9 b gh.2.1.lit gh.2.1.parts gh.2.2.1 (.slice gh.2.2.2.1 gh.2.1.lit.length gh.2.2.2.2.1) (.slice gh.2.2.2.2.2.1 gh.2.1.parts.length gh.2.2.2.2.2.2.1) gh.2.2.2.2.2.2.2.1 gh.2.2.2.2.2.2.2.2.1∧Dr s gh.1 gh.2.1=lg s∧mS s gh.2.1≤gh.1∧gh.1≤s.size∧gh.2.1.i≤s.size+3∧gh.2.1.lit.length≤gh.2.1.i∧gh.2.1.parts.length≤2*gh.2.1.i∧gh.2.1.pl≤gh.2.1.i) (fun gh=>gh.1) ((s.size,Ca,p0,A0,c0,B0,d0,Ns,Nr,G)) (by exact (H).sub ⟨rfl,aL⟩) ?_ ?_
 ·exact ⟨hR,rfl,by simp [mS,Ca],bR _,by simp [Ca],by simp [Ca],by simp [Ca],by simp [Ca]⟩
 clear H;rintro ⟨k,x,p,vA,vc,qA,qc,Lp,Lo,g⟩ a w hI H;dsimp only at hI H;obtain ⟨hR,hsc,hmk,hks,hxi,hx1,hx2,hx3⟩:=hI;dsimp only [lca,bK] at H;refine eY (fun _ K2=>?_);refine eY (fun _ K3=>?_)
 by_cases c0:(x.i:Int) < (s.size:Int)
 ·skip
  by_cases c1:x.e=0
  ·skip;refine dI hmx [[],[0],[0,1],[0,1,2],[],[4],[4,5],[4,5,6],(ra 4 4),(ra 0 9),(ra 0 10),(ra 0 11),(ra 0 12),(ra 0 13),(ra 0 14),(ra 0 15),(ra 0 16)] [] (by kernel_rfl) [_,_,_,vi x.i,_,_,_,.string s,_,_,_,_,(aM b 0),_,vi x.e,_,_] H (aD (Z0 rfl (Rm rfl)) (Z1 0 2 rfl (Rk rfl)) (Z1 1 3 rfl (Rf qX rfl)) (Z1 2 4 rfl (Ro aT 0 rfl)) (aD (Z0 rfl (Rm rfl)) (Z1 4 6 rfl (Rk rfl)) (Z1 5 7 rfl (Rf xO rfl)) (Z1 6 8 rfl (Ro kR 0 rfl)) (aD (Z1 7 9 rfl (Rv jB rfl)) (Z2 3 5 8 10 rfl (Rc rfl)) (Z1 9 11 rfl (Rm rfl)) (Z1 10 12 rfl (YM (aI c0) rfl)) (aD ?_ (Z2 12 14 10 12 rfl (YF CB (aI c0) rfl)) (Z2 13 15 10 12 rfl (YO iD 0 (aI c0) rfl)) (Z2 14 16 10 12 rfl (YC (aI c0) rfl)) (bM (Z2 10 12 15 17 rfl (Pt (aI c0) rfl)) cO))))) ?_
   ·refine dL 11 13 10 12 rfl rfl fun _ a w G1 hG HT H fin=>?_;refine vg H (wg H rfl rfl (aI c0)) rfl rfl ?_;clear H;intro a H;exact fin H iJ rfl
   clear H;intro a w G aam H hv;have H:=H.aN (hv 16 18 rfl rfl) rfl;clear hv;refine aC ⟨rfl,?_⟩;refine K3 _ _ ?_;clear K3;refine Kr H rfl (aI c1) ?_;refine kP H (Kc K2 (SB (SQ fun _ K4=>SQ fun _ K5=>?_)));clear H K2;intro a H;refine dI hmx [[],[0],[0,1],[0,1,2],[],[4],[4,5],[4,5,6],(ra 0 8),(ra 0 9)] [] (by kernel_rfl) [_,_,_,.string s,_,_,_,vi x.i,.int .u8 (gH s x.i),_] H (aD (Z0 rfl (Rm rfl)) (Z1 0 19 rfl (Rk rfl)) (Z1 1 20 rfl (Rf xO rfl)) (Z1 2 21 rfl (Ro kR 0 rfl)) (aD (Z0 rfl (Rm rfl)) (Z1 4 23 rfl (Rk rfl)) (Z1 5 24 rfl (Rf qX rfl)) (Z1 6 25 rfl (Ro aT 0 rfl)) (bM ?_ (bM (Z1 8 27 rfl (Rc rfl)) cO)))) ?_
   ·refine dL 3 22 7 26 rfl rfl fun _ a w G1 hG HT H fin=>?_;refine qx x.i jB H wn rfl rfl rfl (by omega) rfl ?_;clear H;intro a H;rw [← mD] at H;exact fin H iJ rfl
   clear H;intro a w G iY H hv;have H:=H.aN (hv 9 28 rfl rfl) rfl;clear hv;refine aC ⟨rfl,?_⟩;refine K5 _ _ ?_;clear K5;refine mW H rfl ?_ ?_
   ·intro nV
    try have p28:=dT nV
    refine kP H (SR fun _ K6=>Rm rfl ?_);clear H;intro a H;refine gK ajF (Li:=[]) (L:=xA b s x p (.slice vA x.lit.length vc) (.slice qA x.parts.length qc) :: (Lp++Lo)) H wn rfl (aqw _ Lp Lo _ b s x p _ _ hR (Hp.owns (Li:=[]) H.hp) (by omega) (by omega) (by omega) (by omega) (by omega)) rfl ?_;clear H;rintro v30 zF L30 a w ⟨p',v',q',rP,lC,rfl,OM⟩ BG H;dsimp only [List.nil_append] at H;have hst:pO s x=qw s x:=ak p28;have hok:=aei s x ⟨by omega,c1⟩ hx1 hx2 hx3
    have hkk:k=(k - 1)+1:=by omega
    have U9:Dr s (k - 1) (pO s x)=lg s:=by rw [hkk,Dr,ak ⟨by omega,c1⟩] at hsc;exact hsc
    rw [← hst] at H OM;obtain ⟨QX,RO,rfl,-,-⟩:=OM.buf.shape;obtain ⟨B30,d30,rfl,-,-⟩:=OM.prt.shape;refine K6 _ _ ?_;clear K6;refine jI ?_;refine dx ((k - 1,pO s x,p',QX,RO,B30,d30,rP,lC,zF)) (by exact (H).sub ⟨rfl,aL⟩) ?_
    (try dsimp only);exact ⟨OM,U9,by omega,by omega,by omega,by omega,by omega,by omega⟩
   intro nV
   try have p28:=dF nV
   refine iw ?_;refine K4 _ _ ?_;clear K4;refine eY (fun _ K7=>?_);refine dI hmx [[],[0],[0,1],[],[3],[3,4],[3,4,5],[],[7],[7,8],[7,8,9],(ra 3 8),(ra 0 12)] [12] (by kernel_rfl) [_,_,_,_,_,_,.string s,_,_,_,vi x.i,.int .u8 (gH s x.i)] H (aD (Z0 rfl (Rm rfl)) (Z1 0 31 rfl (Rk rfl)) (Z1 1 32 rfl (Rf KO rfl)) (Z0 rfl (Rm rfl)) (aD (Z1 3 34 rfl (Rk rfl)) (Z1 4 35 rfl (Rf xO rfl)) (Z1 5 36 rfl (Ro kR 0 rfl)) (Z0 rfl (Rm rfl)) (aD (Z1 7 38 rfl (Rk rfl)) (Z1 8 39 rfl (Rf qX rfl)) (Z1 9 40 rfl (Ro aT 0 rfl)) ?_ (bM (bS rfl) cO)))) ?_
   ·refine dL 6 37 10 41 rfl rfl fun _ a w G1 hG HT H fin=>?_;refine qx x.i jB H wn rfl rfl rfl (by omega) rfl ?_;clear H;intro a H;rw [← mD] at H;exact fin H iJ rfl
   clear H;intro a w G rV H hv;have H:=H.aN (hv 2 33 rfl rfl) rfl;have H:=H.aN (hv 11 42 rfl rfl) rfl;clear hv;refine gK Zu (Li:=[]) (L:=xA b s x p (.slice vA x.lit.length vc) (.slice qA x.parts.length qc) :: (Lp++Lo)) H wn rfl (aeN _ Lp Lo _ b s x.i p _ qA x.parts.length qc x.pl x.e x.lit.length _ (gH s x.i) hR.ptr (Hp.owns (Li:=[]) H.hp) hR.buf (by omega)) rfl ?_;clear H;rintro v43 _ L43 a w ⟨avQ,Ru,rfl,abD,rfl⟩ CY H;dsimp only [List.nil_append] at H;obtain ⟨QY,RP,rfl,-,-⟩:=abD.shape;have hst:pO s x=⟨x.i+1,x.lit++[NJ s x.i],x.parts,x.pl,x.e⟩:=ah p28;have hok:=aei s x ⟨by omega,c1⟩ hx1 hx2 hx3
   have hkk:k=(k - 1)+1:=by omega
   have U9:Dr s (k - 1) (pO s x)=lg s:=by rw [hkk,Dr,ak ⟨by omega,c1⟩] at hsc;exact hsc
   have ami:A9 b (pO s x).lit (pO s x).parts (aM b 2) (.slice QY (pO s x).lit.length RP) (.slice qA (pO s x).parts.length qc) Lp Ru:=by
    rw [hst];exact ⟨.inr rfl,by simpa [Lib.byteCells,afK] using abD,hR.prt⟩
   refine aC ⟨rfl,?_⟩;refine K7 _ _ ?_;clear K7;refine kP H (SC (Rm rfl (Rk rfl (dU qX aT 0 rfl rfl (Rd rfl (Rk rfl (Rf qX rfl ?_)))))));clear H;intro a H;refine aY aT 0 (vs:=[_]) _ H wn rfl rfl rfl rfl rfl rfl rfl rfl ?_;clear H;intro w H;dsimp only [List.set,setRow] at H;replace H:St _ _ _ _ _ _ (xA b s (pO s x) (aM b 2) (.slice QY (pO s x).lit.length RP) (.slice qA (pO s x).parts.length qc) :: (Lp++Ru)) _ _ _:=H.cast (by rw [hst];simp [xA,iq]);refine aC ?_;refine dx ((k - 1,pO s x,(aM b 2),QY,RP,qA,qc,Lp,Ru,_)) (by exact (H).sub ⟨rfl,aL⟩) ?_
   (try dsimp only);exact ⟨ami,U9,by omega,by omega,by omega,by omega,by omega,by omega⟩
  skip;refine dI hmx [[],[0],[0,1],[0,1,2],[],[4],[4,5],[4,5,6],(ra 4 4),(ra 0 9),(ra 0 10),(ra 0 11),(ra 0 12),(ra 0 13),(ra 0 14),(ra 0 15),(ra 0 16)] [] (by kernel_rfl) [_,_,_,vi x.i,_,_,_,.string s,_,_,_,_,(aM b 0),_,vi x.e,_,_] H (aD (Z0 rfl (Rm rfl)) (Z1 0 2 rfl (Rk rfl)) (Z1 1 3 rfl (Rf qX rfl)) (Z1 2 4 rfl (Ro aT 0 rfl)) (aD (Z0 rfl (Rm rfl)) (Z1 4 6 rfl (Rk rfl)) (Z1 5 7 rfl (Rf xO rfl)) (Z1 6 8 rfl (Ro kR 0 rfl)) (aD (Z1 7 9 rfl (Rv jB rfl)) (Z2 3 5 8 10 rfl (Rc rfl)) (Z1 9 11 rfl (Rm rfl)) (Z1 10 12 rfl (YM (aI c0) rfl)) (aD ?_ (Z2 12 14 10 12 rfl (YF CB (aI c0) rfl)) (Z2 13 15 10 12 rfl (YO iD 0 (aI c0) rfl)) (Z2 14 16 10 12 rfl (YC (aI c0) rfl)) (bM (Z2 10 12 15 17 rfl (Pt (aI c0) rfl)) cO))))) ?_
  ·refine dL 11 13 10 12 rfl rfl fun _ a w G1 hG HT H fin=>?_;refine vg H (wg H rfl rfl (aI c0)) rfl rfl ?_;clear H;intro a H;exact fin H iJ rfl
  clear H;intro a w G aam H hv;have H:=H.aN (hv 16 18 rfl rfl) rfl;clear hv;refine aC ⟨rfl,?_⟩;refine K3 _ _ ?_;clear K3;refine zJ H rfl (aX c1) ?_;refine jI ?_;refine K1 _ _ ?_;clear K1;refine eY (fun _ K8=>?_)
  have Vo:x=lg s:=by
   rw [adT (by first|exact fun h=>c0 (by omega)|exact fun h=>c1 h.2)] at hsc;exact hsc
  subst Vo;refine kP H (SC (Rm rfl ?_));clear H;intro a H;refine gK SK (Li:=[]) (L:=xA b s (lg s) p (.slice vA (lg s).lit.length vc) (.slice qA (lg s).parts.length qc) :: (Lp++Lo)) H wn rfl (TA _ Lp Lo _ b s (lg s).i p _ _ (lg s).pl (lg s).e (lg s).lit (lg s).parts hR (Hp.owns (Li:=[]) H.hp) (by omega) (by omega)) rfl ?_;clear H;rintro v52 XF L52 a w ⟨p52,atU,q52,afv,afq,rfl,tZ⟩ anq H;dsimp only [List.nil_append] at H;obtain ⟨zB,zI,rfl,-,-⟩:=tZ.buf.shape;obtain ⟨B52,d52,rfl,-,-⟩:=tZ.prt.shape;refine kH H (Kn K8 (SR fun _ K9=>Rm rfl (Rk rfl (dU CB iD 0 rfl rfl (Rc rfl (Rm rfl (Sp 58 rfl ?_ ?_))))))) <;> clear H K8
  ·intro kX a H
   try have p58:=dT kX
   refine kH H (YM kX rfl ?_);clear H;intro a H;refine vg H (wg H rfl rfl kX) rfl rfl ?_;clear H;intro a H;refine kH H (YF Om kX rfl (YO aT 0 kX rfl (YC kX rfl (Pt kX rfl (Kz K9 (Cd rfl ?_ ?_)))))) <;> clear H K9
   ·intro h64 a H
    try have p64:=dT h64
    refine kP H (SC (Rm rfl (Rk rfl (Rf CB rfl ?_))));clear H;intro a H;refine aY iD 0 (vs:=[_]) _ H wn rfl rfl rfl rfl rfl rfl rfl rfl ?_;clear H;intro w H;dsimp only [List.set,setRow] at H;refine aC ?_;refine (leave0 H results266 ?_).2
    first
     | exact H.hp.dM ⟨_,_,_,_,_,by rw [vk,ak ⟨by assumption,by assumption⟩],tZ⟩
     | exact H.hp.dM ⟨_,_,_,_,_,by rw [vk,ah (by first|exact fun h=>p58 h.1|exact fun h=>p64 h.2)],tZ⟩
   intro h64 a H
   try have p64:=dF h64
   refine iw ?_;refine (leave0 H results266 ?_).2
   first
    | exact H.hp.dM ⟨_,_,_,_,_,by rw [vk,ak ⟨by assumption,by assumption⟩],tZ⟩
    | exact H.hp.dM ⟨_,_,_,_,_,by rw [vk,ah (by first|exact fun h=>p58 h.1|exact fun h=>p64 h.2)],tZ⟩
  intro kX a H
  try have p58:=dF kX
  refine kH H (fB kX rfl (fU kX rfl (Pf kX rfl (Kz K9 (Cf rfl rfl ?_)))));clear H K9;intro a H;refine iw ?_;refine (leave0 H results266 ?_).2
  first
   | exact H.hp.dM ⟨_,_,_,_,_,by rw [vk,ak ⟨by assumption,by assumption⟩],tZ⟩
   | exact H.hp.dM ⟨_,_,_,_,_,by rw [vk,ah (by first|exact fun h=>p58 h.1|exact fun h=>p64 h.2)],tZ⟩
 skip;refine dI hmx [[],[0],[0,1],[0,1,2],[],[4],[4,5],[4,5,6],(ra 4 4),(ra 0 9),(ra 0 10),(ra 0 11),(ra 0 12),(ra 0 13),(ra 0 14),(ra 0 15),(ra 0 16)] [] (by kernel_rfl) [_,_,_,vi x.i,_,_,_,.string s,_,_,_,undef,undef,undef,undef,undef,_] H (aD (Z0 rfl (Rm rfl)) (Z1 0 2 rfl (Rk rfl)) (Z1 1 3 rfl (Rf qX rfl)) (Z1 2 4 rfl (Ro aT 0 rfl)) (aD (Z0 rfl (Rm rfl)) (Z1 4 6 rfl (Rk rfl)) (Z1 5 7 rfl (Rf xO rfl)) (Z1 6 8 rfl (Ro kR 0 rfl)) (aD (Z1 7 9 rfl (Rv jB rfl)) (Z2 3 5 8 10 rfl (Rc rfl)) (Z1 9 11 rfl (Rm rfl)) (aW 10 (aX c0) rfl rfl) (aD (aW 10 (aX c0) rfl rfl) (aW 10 (aX c0) rfl rfl) (aW 10 (aX c0) rfl rfl) (aW 10 (aX c0) rfl rfl) (bM (Z2 10 12 15 17 rfl (Pf (aX c0) rfl)) cO))))) ?_
 clear H;intro a w G aam H hv;have H:=H.aN (hv 16 18 rfl rfl) rfl;clear hv;refine aC ⟨rfl,?_⟩;refine K3 _ _ ?_;clear K3;refine zJ H rfl rfl ?_;refine jI ?_;refine K1 _ _ ?_;clear K1;refine eY (fun _ eU=>?_)
 have Vo:x=lg s:=by
  rw [adT (by first|exact fun h=>c0 (by omega)|exact fun h=>c1 h.2)] at hsc;exact hsc
 subst Vo;refine kP H (SC (Rm rfl ?_));clear H;intro a H;refine gK SK (Li:=[]) (L:=xA b s (lg s) p (.slice vA (lg s).lit.length vc) (.slice qA (lg s).parts.length qc) :: (Lp++Lo)) H wn rfl (TA _ Lp Lo _ b s (lg s).i p _ _ (lg s).pl (lg s).e (lg s).lit (lg s).parts hR (Hp.owns (Li:=[]) H.hp) (by omega) (by omega)) rfl ?_;clear H;rintro v52 XF L52 a w ⟨p52,atU,q52,afv,afq,rfl,tZ⟩ anq H;dsimp only [List.nil_append] at H;obtain ⟨zB,zI,rfl,-,-⟩:=tZ.buf.shape;obtain ⟨B52,d52,rfl,-,-⟩:=tZ.prt.shape;refine kH H (Kn eU (SR fun _ fQ=>Rm rfl (Rk rfl (dU CB iD 0 rfl rfl (Rc rfl (Rm rfl (Sp 58 rfl ?_ ?_))))))) <;> clear H eU
 ·intro kX a H
  try have p58:=dT kX
  refine kH H (YM kX rfl ?_);clear H;intro a H;refine vg H (wg H rfl rfl kX) rfl rfl ?_;clear H;intro a H;refine kH H (YF Om kX rfl (YO aT 0 kX rfl (YC kX rfl (Pt kX rfl (Kz fQ (Cd rfl ?_ ?_)))))) <;> clear H fQ
  ·intro h64 a H
   try have p64:=dT h64
   refine kP H (SC (Rm rfl (Rk rfl (Rf CB rfl ?_))));clear H;intro a H;refine aY iD 0 (vs:=[_]) _ H wn rfl rfl rfl rfl rfl rfl rfl rfl ?_;clear H;intro w H;dsimp only [List.set,setRow] at H;refine aC ?_;refine (leave0 H results266 ?_).2
   first
    | exact H.hp.dM ⟨_,_,_,_,_,by rw [vk,ak ⟨by assumption,by assumption⟩],tZ⟩
    | exact H.hp.dM ⟨_,_,_,_,_,by rw [vk,ah (by first|exact fun h=>p58 h.1|exact fun h=>p64 h.2)],tZ⟩
  intro h64 a H
  try have p64:=dF h64
  refine iw ?_;refine (leave0 H results266 ?_).2
  first
   | exact H.hp.dM ⟨_,_,_,_,_,by rw [vk,ak ⟨by assumption,by assumption⟩],tZ⟩
   | exact H.hp.dM ⟨_,_,_,_,_,by rw [vk,ah (by first|exact fun h=>p58 h.1|exact fun h=>p64 h.2)],tZ⟩
 intro kX a H
 try have p58:=dF kX
 refine kH H (fB kX rfl (fU kX rfl (Pf kX rfl (Kz fQ (Cf rfl rfl ?_)))));clear H fQ;intro a H;refine iw ?_;refine (leave0 H results266 ?_).2
 first
  | exact H.hp.dM ⟨_,_,_,_,_,by rw [vk,ak ⟨by assumption,by assumption⟩],tZ⟩
  | exact H.hp.dM ⟨_,_,_,_,_,by rw [vk,ah (by first|exact fun h=>p58 h.1|exact fun h=>p64 h.2)],tZ⟩
section
def Aw (c:Int):List Dat:=[.lf (.int .u8 c)]
theorem aes {G:GH} {c:Int} {cs:List aj} (h:aV G (Aw c) cs):cs=[.int .u8 c]:=by
 simp only [Aw,aV,au] at h
 obtain ⟨_,_,rfl,⟨rfl,_⟩,rfl⟩:=h
 rfl
def Ik (s:ByteArray):List Int:=s.data.toList.map fun b=>(b.toNat:Int)
theorem afS (G:GH) (l:List Int):bV G 1 (l.map Aw) (l.map fun c=>Value.int .u8 c):=by
 refine ⟨l.map fun c=>[.int .u8 c],by induction l with|nil=>rfl|cons x r ih=>simp [ih],by simp,fun j r cs hr hc=>?_⟩
 rw [sM] at hr hc
 obtain ⟨x,hx,rfl⟩:=qF.1 hr
 rw [hx] at hc
 cases hc
 exact ⟨by simp only [Aw,aV];exact ⟨_,_,rfl,by simp [au,Value.oneCell'],rfl⟩,rfl⟩
theorem aqU {G:GH} {sz b o n cap:Nat} {cur:Array aj} {e:TypeId} {fz:Nat × Nat} {rows:List (List Dat)} (hb:G b=some (.cells cur e fz)) (h:au (fun k=>if k=b then some (.cells cur e (0,0)) else G k) (.sl sz rows) (.slice (some ⟨b,o,none⟩) n cap)) (hr:∀ r∈rows,∃ c,r=Aw c):au G (.sl sz rows) (.slice (some ⟨b,o,none⟩) n cap):=by
 simp only [au] at h ⊢
 obtain ⟨A,c,h1,h2,h3,h4⟩:=h
 refine ⟨A,c,h1,h2,h3,fun hn=>?_⟩
 obtain ⟨b',o',e',hrr⟩:=h4 hn
 injection h1 with e1
 subst e1
 injection e' with e2
 injection e2 with e3 e4
 subst e3;subst e4
 refine ⟨_,_,rfl,nJ.mk fun k r hk=>?_⟩
 obtain ⟨cs,g1,g2,g3⟩:=hrr.get hk
 refine ⟨cs,g1,fun j u hj=>?_,?_⟩
 ·have:=g2 j u hj
  unfold aH at this ⊢
  simp only [if_true] at this
  rw [hb];exact this
 ·obtain ⟨c,rfl⟩:=hr r (kT hk)
  have:=aes g3
  subst this
  simp only [Aw,aV];exact ⟨_,_,rfl,by simp [au,Value.oneCell'],rfl⟩
section
variable {N:Nat} {D:List Deferred} {w0:World} {F:Nat→Prop} {G0 G:GH} {L:OL} {T:List (Nat × aj)}
variable {r:Option Nat} {P:Program} {ops:Array Oper} {Q:Exit→Act→World→Prop} {rest:List Oper} {a:Act} {w:World}
variable {d:Nat} {ty:TypeId} {pos:String} {aO:Array Edge} {g:Option (Nat × Bool)}
theorem atL {w:World} {b o n:Nat} {c:Array aj} {e:TypeId} {fz:Nat × Nat} (h:w.heap[b]?=some (.cells c e fz)) (hn:n≠0):∃ FL,vD b (.cells c e FL) w (w.freeze ⟨b,o,none⟩ n):=by
 unfold World.freeze
 rw [ah hn]
 refine ⟨if fz.1 == fz.2 then (o,o+n) else (min fz.1 o,max fz.2 (o+n)),rfl,rfl,rfl,by simp,?_,fun k hk=>?_⟩
 ·simp [Array.getElem?_modify,h]
 ·simp [Array.getElem?_modify,Ne.symm hk]
theorem arQ {t u e:TypeId} {x:Operand} {s:ByteArray} (ht:P.underlying t=some .string) (hu:P.underlying u=some (.slice e)) (he:P.underlying e=some (.int .u8)) (H:St N D w0 F G0 G L T a w) (hw:Region.wanted ⟨some d,.convert t u x,ty,pos,aO,g⟩ (yielded ops a.tmps)=true) (hx:ev T x=some (.string s)) (hz:s.size≤4294967296) (hd:Nat.blt d N=true)
  (k:∀ v G' a' w',(∀ k o,G k=some o→G' k=some o)→au G' (.sl 1 ((Ik s).map Aw)) v→St N D w0 F G0 G' L ((d,v) :: T) a' w'→WL r P ops Q rest a' w'):WL r P ops Q (⟨some d,.convert t u x,ty,pos,aO,g⟩ :: rest) a w:=by
 have hc:=Lib.run_convert_string_bytes (P:=P) w t u e s ht hu he
 have hge:=grownCap_ge w s.size 0 e
 have hml:s.size≤maxLen:=by
  have:maxLen=9223372036854775807:=rfl
  omega
 have hgm:=grownCap_le_maxLen w s.size 0 e hml
 have H1:=H.hp.drew.alloc (.cells (Lib.bytesCells w e s) e)
 have hw1:(w.drew.alloc (.cells (Lib.bytesCells w e s) e)).heap[w.drew.heap.size]?=some (.cells (Lib.bytesCells w e s) e (0,0)):=H1.own _ eX
 obtain ⟨fz,hu2⟩:=atL (o:=(Lib.bytesCells w e s).size) (n:=1) hw1 (by decide)
 have H2:=H1.upd (i:=0) rfl hu2
 have H3:St N D w0 F G0 G ((w.heap.size,.cells (Lib.bytesCells w e s) e fz) :: L) ((d,.slice (some ⟨w.heap.size,0,none⟩) s.size (grownCap w s.size 0 e)) :: T) (a.put (some d) (.slice (some ⟨w.heap.size,0,none⟩) s.size (grownCap w s.size 0 e))) (Lib.bytesWorld w e s):=H.put hd _ H2
 obtain ⟨G',hm,hb,H4⟩:=H3.eB
 have hlen:(Ik s).length=s.size:=by rw [Ik,bO,uJ];rfl
 have hrep:au G' (.sl 1 ((Ik s).map Aw)) (.slice (some ⟨w.heap.size,0,none⟩) s.size (grownCap w s.size 0 e)):=by
  refine aqU hb ?_ (fun r hr=>by obtain ⟨c,-,rfl⟩:=List.mem_map.1 hr;exact ⟨c,rfl⟩)
  refine au.fu (cur:=Lib.bytesCells w e s) (e:=e) (n:=s.size) (cap:=grownCap w s.size 0 e) (by simp) (by rw [bO,hlen]) hge hgm ?_ (afS _ _)
  rw [Lib.bytesCells,Array.toList_append,Nat.mul_one,List.take_left' (by rw [Array.toList_map,bO,uJ];rfl)]
  simp [Ik]
 have k2:=k _ _ _ _ hm hrep H4
 refine fF (v:=.slice (some ⟨w.heap.size,0,none⟩) s.size (grownCap w s.size 0 e)) (w':=Lib.bytesWorld w e s) hw rfl ?_ k2
 simp only [execOp,H.ev hx,dV,hc,mR,sN]
theorem arW {t yt:TypeId} {x y:Operand} {p q:ByteArray} (H:St N D w0 F G0 G L T a w) (hw:Region.wanted ⟨some d,.binOp .lss t x y yt,ty,pos,aO,g⟩ (yielded ops a.tmps)=true) (hx:ev T x=some (.string p)) (hy:ev T y=some (.string q)) (hd:Nat.blt d N=true)
  (k:∀ a',St N D w0 F G0 G L ((d,.bool (Op.bytesLess p.toList q.toList)) :: T) a' w→WL r P ops Q rest a' w):WL r P ops Q (⟨some d,.binOp .lss t x y yt,ty,pos,aO,g⟩ :: rest) a w:=by
 refine fF (v:=.bool (Op.bytesLess p.toList q.toList)) (w':=w) hw rfl ?_ (k _ (H.put hd _ H.hp))
 simp [execOp,H.ev hx,H.ev hy,dV,eqGuard,binOp,Op.stringOp]
end
end
theorem ajE:∀ args w,(callFunc 271 args).run prog w=.ok (.enter 271 args) w:=enters func271 rfl (by kernel_rfl)
theorem ajB:∀ args w,(callFunc 266 args).run prog w=.ok (.enter 266 args) w:=enters func266 rfl (by kernel_rfl)
theorem ajz:∀ args w,(callFunc 264 args).run prog w=.ok (.enter 264 args) w:=enters func264 rfl (by kernel_rfl)
theorem atm:qE prog 340 [(0,1),(1,1),(2,2),(4,1),(5,1),(6,1)] [.string ⟨#[]⟩,.int .i64 0,.pointer none,.slice none 0 0,.slice none 0 0,.int .i64 0,.int .i64 0]:=⟨by kernel_rfl,by kernel_rfl⟩
theorem ajC:∀ args w,(callFunc 267 args).run prog w=.ok (.enter 267 args) w:=enters func267 rfl (by kernel_rfl)
instance:dR prog 318 1 1:=⟨by kernel_rfl⟩
theorem ajp:∀ args w,(callFunc 246 args).run prog w=.ok (.enter 246 args) w:=enters func246 rfl (by kernel_rfl)
theorem ajq:∀ args w,(callFunc 247 args).run prog w=.ok (.enter 247 args) w:=enters func247 rfl (by kernel_rfl)
theorem ajA:∀ args w,(callFunc 265 args).run prog w=.ok (.enter 265 args) w:=enters func265 rfl (by kernel_rfl)
theorem ajr:∀ args w,(callFunc 248 args).run prog w=.ok (.enter 248 args) w:=enters func248 rfl (by kernel_rfl)
def RF (fv:aj) (G:GH) (c:Int) (b:Bool):Prop:=∀ (G1:GH) (w1:World),(∀ b o,G b=some o→G1 b=some o)→Hold G1 w1→rO prog fv [.int .u8 c] w1 (bB w1 G1 fun u G'=>u=.bool b)
theorem aoL (G:GH) (w0:World) (hG:Hold G w0) (l:List Int) (p:Int→Bool) (v fv:aj) (hv:au G (.sl 1 (l.map Aw)) v) (hf:∀ c∈l,RF fv G c (p c)) :
  Calls prog 271 #[v,fv] w0 (bB w0 G fun u G'=>u=vi (oC (l.findIdx? p))):=by
 obtain ⟨A,c,rfl,hc1,hc2,hg⟩:=hv.slice;have hml:maxLen=9223372036854775807:=rfl;rw [bO] at *;refine eN [(0,_),(1,_)] func271 rfl ntmps271 rfl rfl hG ?_;refine av 10 ?_;intro a H;refine eH (ι:=Nat × GH) (Tc:=[(0,_),(1,_),(7,_)]) (Lc:=[]) (fun gh=>[(8,vi gh.1)]) (fun gh=>[]) (fun gh=>gh.2) (fun gh=>gh.1≤l.length∧(l.take gh.1).findIdx? p=none∧(∀ b o,G b=some o→gh.2 b=some o)) (fun gh=>l.length - gh.1) ((0,G)) sB ?_ ?_
 ·exact ⟨by omega,rfl,fun _ _ h=>h⟩
 clear H;rintro ⟨k,g⟩ a w hI H;dsimp only at hI H;obtain ⟨hk,hno,hgm⟩:=hI;dsimp only [lca,bK] at H;refine iI 4 H ?_ ?_ <;> clear H
 ·intro p9
  have hk2:k < l.length:=by omega
  obtain ⟨b,o,cs,rfl,hcl,hrow,hr⟩:=hg k (Aw l[k]) (by simp [hk2]);obtain rfl:=aes hr
  have hcell:aH G b (o+k*1)=some (.int .u8 l[k]):=by simpa using hrow 0 _ rfl
  refine av 12 ?_;intro a H;refine kL WV H wn rfl (H.hp.aH (aG hgm hcell)) rfl ?_;clear H;intro a H;refine jF H wn rfl rfl (hf _ (lH hk2) _ _ hgm H.ro) rfl ?_;clear H;rintro v16 qC a w rfl jW H;refine lW 1 H ?_ ?_ <;> clear H
  ·intro h16
   try have p16:=dT h16
   refine bP 4 ?_
   first
    | exact (by rw [wm hk2 hno h16];rfl)
    | exact (by rw [show l.take k=l from gu (by omega)] at hno;rw [hno];rfl)
  intro h16
  try have p16:=dF h16
  refine av 4 ?_;intro a H;refine aC ?_;refine dx ((k+1,qC)) sB ?_
  (try dsimp only);exact ⟨by omega,EG hk2 hno h16,fun b o h=>jW b o (hgm b o h)⟩
 intro p9
 refine bP 4 ?_
 first
  | exact (by rw [wm hk2 hno h16];rfl)
  | exact (by rw [show l.take k=l from gu (by omega)] at hno;rw [hno];rfl)
theorem Vw (o:Option Nat):decide (0≤oC o)=o.isSome:=by cases o <;> simp [oC]
theorem aho (G:GH) (w0:World) (hG:Hold G w0) (l:List Int) (p:Int→Bool) (v fv:aj) (hv:au G (.sl 1 (l.map Aw)) v) (hf:∀ c∈l,RF fv G c (p c)) :
  Calls prog 264 #[v,fv] w0 (bB w0 G fun u G'=>u=.bool (l.findIdx? p).isSome):=by
 obtain ⟨A,c,rfl,hc1,hc2,-⟩:=hv.slice;rw [bO] at *;refine eN [(0,_),(1,_)] func264 rfl ntmps264 rfl rfl hG ?_;refine av 6 ?_;intro a H;refine s_call ajE H wn rfl (aoL _ _ H.ro l p _ _ hv hf) rfl ?_;clear H;rintro v7 G7 a w rfl BH H;refine kJ 3 H ?_;exact (dG (Vw _))
def KC (c:Int):Bool:=decide (c < 32) || decide (c=127)
theorem ahq (G:GH) (c:Int):RF (.func (.func 265) #[] #[]) G c (KC c):=by
 intro G1 w0 hm hG;refine jo (caps:=[]) ajA ?_;refine eN [(0,_)] func265 rfl ntmps265 rfl rfl hG ?_;refine qJ 7 5 ?_ ?_
 ·intro p5
  refine bP 5 ?_;exact (dG (by unfold KC;first|(simp_all;done)|(simp_all;omega)))
 intro p5
 refine bP 5 ?_;exact (dG (by unfold KC;first|(simp_all;done)|(simp_all;omega)))
def yj (t:ByteArray):Int:=if 64 < t.size then 10 else if rM t=false then 12 else if ((Ik t).findIdx? KC).isSome=true then 5 else vk (lg t)
def za (t:ByteArray):List jG:=if yj t=0 then vT (lg t).lit (lg t).parts else []
theorem apn (G:GH) (l:List jG):bV G 3 (l.map jG.dat) (GK l):=by
 refine ⟨l.map jG.cells,rfl,by simp,fun j r cs hr hc=>?_⟩;rw [sM] at hr hc;obtain ⟨x,hx,rfl⟩:=qF.1 hr;rw [hx] at hc
 cases hc
 exact ⟨acn G x,rfl⟩
theorem aqu (G:GH) (w0:World) (hG:Hold G w0) (t:ByteArray) (ht:t.size < 4611686018427387904) :
  Calls prog 246 #[.string t] w0 (bB w0 G fun u G'=>∃ x,u=.tuple #[x,vi (yj t)]∧au G' (.sl 3 ((za t).map jG.dat)) x):=by
 refine eN [(0,_)] func246 rfl ntmps246 rfl rfl hG ?_;refine goB 12 ?_ ?_
 ·intro p5
  have he:yj t=10:=by rw [yj,ak (by omega)]
  refine av 4 ?_;intro a H;refine cK ?_;refine (fE H results246 (.cons (bq H rfl) (.cons (bq H rfl) .nil)) ?_).1
  first
   | exact H.rt ⟨_,by rw [he0],by rw [za,ak he0];exact hrep⟩
   | exact H.rt ⟨_,by rw [he],by rw [za,ah (by rw [he];first|decide|assumption)];exact au.mg rfl (by decide)⟩
 intro p5
 refine av 2 ?_;intro a H;refine s_call KI H wn rfl (MX _ _ H.ro t ht) rfl ?_;clear H;rintro v11 _ a w ⟨rfl,rfl⟩ - H;refine lW 3 H ?_ ?_ <;> clear H
 ·intro h9
  try have p9:=dT h9
  have he:yj t=12:=by rw [yj,ah (by omega),ak (by simpa using h9)]
  refine av 4 ?_;intro a H;refine cK ?_;refine (fE H results246 (.cons (bq H rfl) (.cons (bq H rfl) .nil)) ?_).1
  first
   | exact H.rt ⟨_,by rw [he0],by rw [za,ak he0];exact hrep⟩
   | exact H.rt ⟨_,by rw [he],by rw [za,ah (by rw [he];first|decide|assumption)];exact au.mg rfl (by decide)⟩
 intro h9
 try have p9:=dF h9
 refine av 2 ?_;intro a H;refine arQ jB JO JQ H wn rfl (by omega) rfl ?_;clear H;intro v15 Cn a w BD abH H;obtain ⟨Xo,c15,rfl,-,-,-⟩:=abH.slice;refine s_call ajz H wn rfl (aho _ _ H.ro _ KC _ _ abH (fun c _=>ahq _ c)) rfl ?_;clear H;rintro v16 qC a w rfl jW H;refine lW 2 H ?_ ?_ <;> clear H
 ·intro jD
  try have qp:=dT jD
  have he:yj t=5:=by rw [yj,ah (by omega),ah (by simpa using h9),ak jD]
  refine av 4 ?_;intro a H;refine cK ?_;refine (fE H results246 (.cons (bq H rfl) (.cons (bq H rfl) .nil)) ?_).1
  first
   | exact H.rt ⟨_,by rw [he0],by rw [za,ak he0];exact hrep⟩
   | exact H.rt ⟨_,by rw [he],by rw [za,ah (by rw [he];first|decide|assumption)];exact au.mg rfl (by decide)⟩
 intro jD
 try have qp:=dF jD
 refine av 3 ?_;intro a H;refine jl atm [_,_,_,_,_,_,_] H wn rfl rfl rfl rfl ?_;clear H;intro a H;refine dW (cs:=[_,_,_,_,_,_,_]) H wn rfl rfl rfl ?_;clear H;intro b19 a w aaz H;refine bJ 5 H ?_;clear H;intro a H;refine gK ajB (Li:=[]) (L:=[xA b19 t Ca (.pointer none) (.slice none 0 0) (.slice none 0 0)]) H wn rfl (asv _ [] [] _ b19 t _ _ _ ⟨.inl rfl,bX.nil,bX.nil⟩ (Hp.owns (Li:=[]) H.hp) (by omega)) rfl ?_;clear H;rintro v21 Nj L21 a w ⟨p',v',q',rP,lC,rfl,Us⟩ BF H;dsimp only [List.nil_append] at H;obtain ⟨Xp,c21,rfl,-,-⟩:=Us.buf.shape;obtain ⟨B21,d21,rfl,-,-⟩:=Us.prt.shape;refine aC ?_;refine oH ?_
 have he:yj t=vk (lg t):=by rw [yj,ah (by omega),ah (by simpa using h9),ah (by simp [jD])]
 refine iI 7 H ?_ ?_ <;> clear H
 ·intro p26
  refine av 1 ?_;intro a H;have H:=H.sub (T':=[(4,_)]) ⟨rfl,aL⟩;refine dI hmx [[],[0],[0,1],[0,1,2],[],(ra 0 5)] [] (by kernel_rfl) [_,_,_,vi (vk (lg t)),_,_] H (aD (Z0 rfl (Rm rfl)) (Z1 0 27 rfl (Rk rfl)) (Z1 1 28 rfl (Rf CB rfl)) (Z1 2 29 rfl (Ro iD 0 rfl)) (bM (Z0 rfl (Ra rfl)) (bM (Z1 3 30 rfl (Ra rfl)) cO))) ?_
  clear H;intro a w G ru H hv;have H:=H.aN (hv 4 2 rfl rfl) rfl;have H:=H.aN (hv 5 3 rfl rfl) rfl;clear hv;refine t0 1 H ?_;clear H;intro a H;refine cK ?_;refine (fE H results246 (.cons (bq H rfl) (.cons (bq H rfl) .nil)) ?_).1
  first
   | exact H.rt ⟨_,by rw [he0],by rw [za,ak he0];exact hrep⟩
   | exact H.rt ⟨_,by rw [he],by rw [za,ah (by rw [he];first|decide|assumption)];exact au.mg rfl (by decide)⟩
 intro p26
 refine av 1 ?_
 have he0:yj t=0:=by rw [he];omega
 intro a H;have H:=(St.cast H (show _=[_]++(rP++lC) from rfl)).perm (List.Perm.append_left _ vG);have H:=St.un H;obtain ⟨Gr,hmr,hrep,H⟩:=St.nO (Li:=[_]++lC) (Lo:=rP) H Us.prt (rows:=(vT (lg t).lit (lg t).parts).map jG.dat) (by simp) (apn _ _);dsimp only [lca,bK] at H;refine mE 8 H ?_;clear H;intro a H;refine cK ?_;refine (fE H results246 (.cons (bq H rfl) (.cons (bq H rfl) .nil)) ?_).1
 first
  | exact H.rt ⟨_,by rw [he0],by rw [za,ak he0];exact hrep⟩
  | exact H.rt ⟨_,by rw [he],by rw [za,ah (by rw [he];first|decide|assumption)];exact au.mg rfl (by decide)⟩
structure jH where
 fmt:Int
 start:Int
 yC:ByteArray
 restart:Int
def jH.dat (x:jH):List Dat:=[li x.fmt,li x.start,.lf (.string x.yC),li x.restart]
abbrev jH.cells (x:jH):List aj:=[vi x.fmt,vi x.start,.string x.yC,vi x.restart]
theorem VJ {G:GH} {x:jH} {cs:List aj} (h:aV G x.dat cs):cs=x.cells:=by
 simp only [jH.dat,aV,au] at h
 obtain ⟨_,_,rfl,⟨rfl,_⟩,_,_,rfl,⟨rfl,_⟩,_,_,rfl,⟨rfl,_⟩,_,_,rfl,⟨rfl,_⟩,rfl⟩:=h
 rfl
theorem aoJ (G:GH) (w0:World) (hG:Hold G w0) (l:List jG) (p:jG→Bool) (v fv:aj) (hv:au G (.sl 3 (l.map jG.dat)) v) (hf:∀ x∈l,tH fv G x.dat (p x)) :
  Calls prog 267 #[v,fv] w0 (bB w0 G fun u G'=>u=vi (oC (l.findIdx? p))):=by
 obtain ⟨A,c,rfl,hc1,hc2,hg⟩:=hv.slice;have hml:maxLen=9223372036854775807:=rfl;rw [bO] at *;refine eN [(0,_),(1,_)] func267 rfl ntmps267 rfl rfl hG ?_;refine av 10 ?_;intro a H;refine eH (ι:=Nat × GH) (Tc:=[(0,_),(1,_),(7,_)]) (Lc:=[]) (fun gh=>[(8,vi gh.1)]) (fun gh=>[]) (fun gh=>gh.2) (fun gh=>gh.1≤l.length∧(l.take gh.1).findIdx? p=none∧(∀ b o,G b=some o→gh.2 b=some o)) (fun gh=>l.length - gh.1) ((0,G)) sB ?_ ?_
 ·exact ⟨by omega,rfl,fun _ _ h=>h⟩
 clear H;rintro ⟨k,g⟩ a w hI H;dsimp only at hI H;obtain ⟨hk,hno,hgm⟩:=hI;dsimp only [lca,bK] at H;refine iI 4 H ?_ ?_ <;> clear H
 ·intro p9
  have hk2:k < l.length:=by omega
  obtain ⟨b,o,cs,rfl,hcl,hrow,hr⟩:=hg k l[k].dat (by simp [hk2]);obtain rfl:=acj hr;refine av 12 ?_;intro a H;refine aR MP (cs:=l[k].cells) H wn rfl rfl (fun j v hj=>H.hp.aH (aG hgm (hrow j v hj))) rfl ?_;clear H;intro a H;refine jF H wn rfl rfl (hf _ (lH hk2) _ _ _ hgm H.ro (acn _ l[k])) rfl ?_;clear H;rintro v16 qC a w rfl jW H;refine lW 1 H ?_ ?_ <;> clear H
  ·intro h16
   try have p16:=dT h16
   refine bP 4 ?_
   first
    | exact (by rw [wm hk2 hno h16];rfl)
    | exact (by rw [show l.take k=l from gu (by omega)] at hno;rw [hno];rfl)
  intro h16
  try have p16:=dF h16
  refine av 4 ?_;intro a H;refine aC ?_;refine dx ((k+1,qC)) sB ?_
  (try dsimp only);exact ⟨by omega,EG hk2 hno h16,fun b o h=>jW b o (hgm b o h)⟩
 intro p9
 refine bP 4 ?_
 first
  | exact (by rw [wm hk2 hno h16];rfl)
  | exact (by rw [show l.take k=l from gu (by omega)] at hno;rw [hno];rfl)
theorem ahn (G:GH) (w0:World) (hG:Hold G w0) (l:List jG) (p:jG→Bool) (v fv:aj) (hv:au G (.sl 3 (l.map jG.dat)) v) (hf:∀ x∈l,tH fv G x.dat (p x)) :
  Calls prog 247 #[v,fv] w0 (bB w0 G fun u G'=>u=.bool (l.findIdx? p).isSome):=by
 obtain ⟨A,c,rfl,hc1,hc2,-⟩:=hv.slice;rw [bO] at *;refine eN [(0,_),(1,_)] func247 rfl ntmps247 rfl rfl hG ?_;refine av 6 ?_;intro a H;refine s_call ajC H wn rfl (aoJ _ _ H.ro l p _ _ hv hf) rfl ?_;clear H;rintro v7 G7 a w rfl BH H;refine kJ 3 H ?_;exact (dG (Vw _))
theorem apq {G:GH} {bl:Nat} {k:Int} (hb:aH G bl 0=some (vi k)) (x:jG):tH (.func (.func 248) #[] #[(aM bl 0)]) G x.dat (decide (k < x.level)):=by
 intro G1 w0 cs hm hG hr;refine jo (caps:=[(aM bl 0)]) ajr ?_;obtain rfl:=acj hr;replace hb:=aG hm hb;refine eN [(0,_),(1,_)] func248 rfl ntmps248 rfl rfl hG ?_;refine av 1 ?_;intro a H;refine dW (cs:=[_,_,_]) H wn rfl rfl rfl ?_;clear H;intro b2 a w hb2 H;refine kJ 9 H ?_;exact rfl
def BN (t:ByteArray) (k:Int):Int:=if k < 1∨9 < k then 2 else if yj t=0∧((za t).findIdx? fun x=>decide (k < x.level)).isSome=true then 6 else yj t
theorem apo (G:GH) (w0:World) (hG:Hold G w0) (t:ByteArray) (k:Int) (ht:t.size < 4611686018427387904) :
  Calls prog 223 #[.string t,vi k] w0 (bB w0 G fun u G'=>u=vi (BN t k)):=by
 refine eN [(0,_),(1,_)] func223 rfl ntmps223 rfl rfl hG ?_;refine av 1 ?_;intro a H;refine dW (cs:=[_]) H wn rfl rfl rfl ?_;clear H;intro b3 a w hb3 H;refine sS 7 9 H ?_ ?_ <;> clear H
 ·intro p9
  refine bP 8 ?_;exact (aB vi (by unfold BN;(repeat' split) <;> first|rfl|(exfalso;simp_all;done)|(exfalso;simp_all;omega)|(simp_all;done)))
 intro p9
 refine goB 4 ?_ ?_
 ·intro qo
  refine bP 3 ?_;exact (aB vi (by unfold BN;(repeat' split) <;> first|rfl|(exfalso;simp_all;done)|(exfalso;simp_all;omega)|(simp_all;done)))
 intro qo
 refine av 1 ?_;intro a H;obtain ⟨Ga,hma,uf,H⟩:=H.eB
 have hbk:aH Ga b3 0=some (vi k):=by unfold aH;rw [uf];rfl
 refine mE 2 H ?_;clear H;intro a H;refine s_call ajp H wn rfl (aqu _ _ H.ro t ht) rfl ?_;clear H;rintro v15 Cn a w ⟨x15,rfl,abK⟩ BD H;obtain ⟨Xo,c15,rfl,-,-,-⟩:=abK.slice;replace hbk:=aG BD hbk;refine bJ 1 H ?_;clear H;intro a H;(iterate 2 refine lQ H wn rfl rfl rfl ?_;clear H;intro a H);refine qd 8 20 H ?_ ?_ <;> clear H
 ·intro h20
  try have Ms:=dT h20
  refine av 1 ?_;intro a H;refine qy H (wg H rfl rfl h20) rfl rfl ?_;clear H;intro a H;refine s_call ajq H (wg H rfl rfl h20) rfl (ahn _ _ H.ro _ (fun x=>decide (k < x.level)) _ _ abK (fun x _=>apq hbk x)) rfl ?_;clear H;rintro v23 Q0 a w rfl Ev H;refine qb 2 H ?_ ?_ <;> clear H
  ·intro jT
   refine bP 7 ?_;exact (aB vi (by unfold BN;(repeat' split) <;> first|rfl|(exfalso;simp_all;done)|(exfalso;simp_all;omega)|(simp_all;done)))
  intro jT
  refine bP 5 ?_;exact (aB vi (by unfold BN;(repeat' split) <;> first|rfl|(exfalso;simp_all;done)|(exfalso;simp_all;omega)|(simp_all;done)))
 intro h20
 try have Ms:=dF h20
 refine bP 11 ?_;exact (aB vi (by unfold BN;(repeat' split) <;> first|rfl|(exfalso;simp_all;done)|(exfalso;simp_all;omega)|(simp_all;done)))
instance Av:Ty prog 96 4 40 [.int .i64 0,.int .i64 0,.string ⟨#[]⟩,.int .i64 0] true:=⟨by kernel_rfl,by kernel_rfl⟩
theorem Ay:prog.underlying 91=some (.slice 96):=by kernel_rfl
instance:lD prog 91 (.slice 96):=⟨Ay⟩
instance ZW:dR prog 96 0 0:=⟨by kernel_rfl⟩
instance ZX:dR prog 96 1 1:=⟨by kernel_rfl⟩
instance alc:dR prog 96 2 2:=⟨by kernel_rfl⟩
theorem ajg:∀ args w,(callFunc 223 args).run prog w=.ok (.enter 223 args) w:=enters func223 rfl (by kernel_rfl)
instance ZY:dR prog 96 3 3:=⟨by kernel_rfl⟩
def Fz:Nat→List jH→Int
 | _,[]=>0
 | i,x :: r=>if x.fmt < 1∨7 < x.fmt then 3 else if x.start < 0∨32767 < x.start then 2 else if BN x.yC ((i+1:Nat):Int)≠0 then BN x.yC ((i+1:Nat):Int) else if x.restart < 0∨(i:Int) < x.restart then 5 else Fz (i+1) r
def eO (l:List jH):Int:=if l.length=0 then 11 else if 9 < l.length then 9 else Fz 0 l
theorem jq {l:List jH} {k:Nat} (h:k < l.length):Fz k (l.drop k)=if l[k].fmt < 1∨7 < l[k].fmt then 3 else if l[k].start < 0∨32767 < l[k].start then 2 else if BN l[k].yC ((k+1:Nat):Int)≠0 then BN l[k].yC ((k+1:Nat):Int) else if l[k].restart < 0∨(k:Int) < l[k].restart then 5 else Fz (k+1) (l.drop (k+1)):=by
 rw [qR h,Fz]
theorem agC (G:GH) (w0:World) (hG:Hold G w0) (l:List jH) (v:aj) (hv:au G (.sl 4 (l.map jH.dat)) v) (ht:∀ x∈l,x.yC.size < 4611686018427387904) :
  Calls prog 185 #[v] w0 (bB w0 G fun u G'=>u=vi (eO l)):=by
 obtain ⟨A,c,rfl,hc1,hc2,hg⟩:=hv.slice;have hml:maxLen=9223372036854775807:=rfl;rw [bO] at *;refine eN [(0,_)] func185 rfl ntmps185 rfl rfl hG ?_;intro a H;refine kP H (SR fun _ K1=>aF K1 rfl (SQ fun _ K2=>SB (SR fun _ K3=>Rm rfl (Rl Ay rfl (Rc rfl (aF K3 rfl (Cd rfl ?_ ?_))))))) <;> clear H K1 K3
 ·intro h6 a H
  try have p6:=dT h6
  refine kP H (SR fun _ K4=>aF K4 rfl ?_);clear H K4;intro a H;refine lr H results185 rfl ?_
  first
   | exact H.rt (aB vi (by rw [eO,ak (by omega)]))
   | exact H.rt (aB vi (by rw [eO,ah (by omega),ak (by omega)]))
   | exact H.rt (aB vi (by rw [eO,ah (by omega),ah (by omega),← he,jq hk2,ak (by omega)]))
   | exact H.rt (aB vi (by rw [eO,ah (by omega),ah (by omega),← he,jq hk2,ah (by omega),ak (by omega)]))
   | exact H.rt (aB vi (by rw [eO,ah (by omega),ah (by omega),← he,jq hk2,ah (by omega),ah (by omega),ak p45]))
   | exact H.rt (aB vi (by rw [eO,ah (by omega),ah (by omega),← he,jq hk2,ah (by omega),ah (by omega),ah p45,ak (by omega)]))
   | exact H.rt (aB vi (by rw [eO,ah (by omega),ah (by omega),← he,lG (by omega)];rfl))
 intro h6 a H
 try have p6:=dF h6
 refine kP H (SR fun _ K5=>Rm rfl (Rl Ay rfl (Rc rfl (aF K5 rfl (Cd rfl ?_ ?_))))) <;> clear H K5
 ·intro h10 a H
  try have iU:=dT h10
  refine kP H (SR fun _ K6=>aF K6 rfl ?_);clear H K6;intro a H;refine lr H results185 rfl ?_
  first
   | exact H.rt (aB vi (by rw [eO,ak (by omega)]))
   | exact H.rt (aB vi (by rw [eO,ah (by omega),ak (by omega)]))
   | exact H.rt (aB vi (by rw [eO,ah (by omega),ah (by omega),← he,jq hk2,ak (by omega)]))
   | exact H.rt (aB vi (by rw [eO,ah (by omega),ah (by omega),← he,jq hk2,ah (by omega),ak (by omega)]))
   | exact H.rt (aB vi (by rw [eO,ah (by omega),ah (by omega),← he,jq hk2,ah (by omega),ah (by omega),ak p45]))
   | exact H.rt (aB vi (by rw [eO,ah (by omega),ah (by omega),← he,jq hk2,ah (by omega),ah (by omega),ah p45,ak (by omega)]))
   | exact H.rt (aB vi (by rw [eO,ah (by omega),ah (by omega),← he,lG (by omega)];rfl))
 intro h10 a H
 try have iU:=dF h10
 refine kP H (Kc K2 (SQ fun _ K7=>SR fun _ K8=>Rm rfl (Rl Ay rfl (Rm rfl (Kz K8 (SB ?_))))));clear H K2 K8;intro a H;skip;refine eH (ι:=Nat × GH) (Tc:=[(14,_),(15,_)]) (Lc:=[]) (fun gh=>[(16,vi gh.1)]) (fun gh=>[]) (fun gh=>gh.2) (fun gh=>gh.1≤l.length∧Fz gh.1 (l.drop gh.1)=Fz 0 l∧(∀ b o,G b=some o→gh.2 b=some o)) (fun gh=>l.length - gh.1) ((0,G)) (by exact (H).sub ⟨rfl,rfl,rfl,aL⟩) ?_ ?_
 ·exact ⟨iH _,rfl,fun _ _ h=>h⟩
 clear H;rintro ⟨k,g⟩ a w hI H;dsimp only at hI H;obtain ⟨hk,he,hgm⟩:=hI;dsimp only [lca,bK] at H;refine kP H (SR fun _ K9=>Rc rfl (Kz K9 (SQ fun _ eU=>Cd rfl ?_ ?_))) <;> clear H K9
 ·intro eT a H
  try have jZ:=dT eT
  have hk2:k < l.length:=by omega
  obtain ⟨b,o,cs,rfl,hcl,hrow,hr⟩:=hg k l[k].dat (by simp [hk2]);obtain rfl:=VJ hr;refine kP H (Kc eU (SQ fun _ fQ=>SB (SR fun _ iF=>Rm rfl (Ri Ay Av rfl rfl ?_))));clear H eU;intro a H;refine aR Av (cs:=l[k].cells) H wn rfl rfl (fun j v hj=>H.hp.aH (aG hgm (hrow j v hj))) rfl ?_;clear H;intro a H;refine dJ Av H wn rfl ?_;clear H;intro b4 a w hb4 H;refine kH H (Ra rfl ?_);clear H;intro a H;refine aY Av 0 (vs:=[_,_,_,_]) _ H wn rfl rfl rfl rfl rfl rfl rfl rfl ?_;clear H;intro w H;dsimp only [List.set,setRow] at H;refine iF _ _ ?_;clear iF;refine kP H (SQ fun _ jd=>SB (SR fun _ iW=>dU ZW aT 0 rfl rfl (Rc rfl (Rm rfl (Sp 25 rfl ?_ ?_))))) <;> clear H
  ·intro pF a H
   try have p25:=dT pF
   refine kH H (fB pF rfl (Pt pF rfl (aF iW rfl (Ct rfl rfl (SR fun _ mq=>aF mq rfl ?_)))));clear H iW mq;intro a H;refine lr H results185 rfl ?_
   first
    | exact H.rt (aB vi (by rw [eO,ak (by omega)]))
    | exact H.rt (aB vi (by rw [eO,ah (by omega),ak (by omega)]))
    | exact H.rt (aB vi (by rw [eO,ah (by omega),ah (by omega),← he,jq hk2,ak (by omega)]))
    | exact H.rt (aB vi (by rw [eO,ah (by omega),ah (by omega),← he,jq hk2,ah (by omega),ak (by omega)]))
    | exact H.rt (aB vi (by rw [eO,ah (by omega),ah (by omega),← he,jq hk2,ah (by omega),ah (by omega),ak p45]))
    | exact H.rt (aB vi (by rw [eO,ah (by omega),ah (by omega),← he,jq hk2,ah (by omega),ah (by omega),ah p45,ak (by omega)]))
    | exact H.rt (aB vi (by rw [eO,ah (by omega),ah (by omega),← he,lG (by omega)];rfl))
  intro pF a H
  try have p25:=dF pF
  refine kH H (YF ZW pF rfl (YO aT 0 pF rfl (YC pF rfl (Pf pF rfl (aF iW rfl (Cd rfl ?_ ?_)))))) <;> clear H iW
  ·intro h21 a H
   try have Dm:=dT h21
   refine kP H (SR fun _ oJ=>aF oJ rfl ?_);clear H oJ;intro a H;refine lr H results185 rfl ?_
   first
    | exact H.rt (aB vi (by rw [eO,ak (by omega)]))
    | exact H.rt (aB vi (by rw [eO,ah (by omega),ak (by omega)]))
    | exact H.rt (aB vi (by rw [eO,ah (by omega),ah (by omega),← he,jq hk2,ak (by omega)]))
    | exact H.rt (aB vi (by rw [eO,ah (by omega),ah (by omega),← he,jq hk2,ah (by omega),ak (by omega)]))
    | exact H.rt (aB vi (by rw [eO,ah (by omega),ah (by omega),← he,jq hk2,ah (by omega),ah (by omega),ak p45]))
    | exact H.rt (aB vi (by rw [eO,ah (by omega),ah (by omega),← he,jq hk2,ah (by omega),ah (by omega),ah p45,ak (by omega)]))
    | exact H.rt (aB vi (by rw [eO,ah (by omega),ah (by omega),← he,lG (by omega)];rfl))
  intro h21 a H
  try have Dm:=dF h21
  refine kP H (SR fun _ qD=>dU ZX aT 0 rfl rfl (Rc rfl (Rm rfl (Sp 34 rfl ?_ ?_)))) <;> clear H
  ·intro mZ a H
   try have p34:=dT mZ
   refine kH H (fB mZ rfl (Pt mZ rfl (aF qD rfl (Ct rfl rfl (SR fun _ pR=>aF pR rfl ?_)))));clear H qD pR;intro a H;refine lr H results185 rfl ?_
   first
    | exact H.rt (aB vi (by rw [eO,ak (by omega)]))
    | exact H.rt (aB vi (by rw [eO,ah (by omega),ak (by omega)]))
    | exact H.rt (aB vi (by rw [eO,ah (by omega),ah (by omega),← he,jq hk2,ak (by omega)]))
    | exact H.rt (aB vi (by rw [eO,ah (by omega),ah (by omega),← he,jq hk2,ah (by omega),ak (by omega)]))
    | exact H.rt (aB vi (by rw [eO,ah (by omega),ah (by omega),← he,jq hk2,ah (by omega),ah (by omega),ak p45]))
    | exact H.rt (aB vi (by rw [eO,ah (by omega),ah (by omega),← he,jq hk2,ah (by omega),ah (by omega),ah p45,ak (by omega)]))
    | exact H.rt (aB vi (by rw [eO,ah (by omega),ah (by omega),← he,lG (by omega)];rfl))
  intro mZ a H
  try have p34:=dF mZ
  refine kH H (YF ZX mZ rfl (YO aT 0 mZ rfl (YC mZ rfl (Pf mZ rfl (aF qD rfl (Cd rfl ?_ ?_)))))) <;> clear H qD
  ·intro mY a H
   try have p30:=dT mY
   refine kP H (SR fun _ pz=>aF pz rfl ?_);clear H pz;intro a H;refine lr H results185 rfl ?_
   first
    | exact H.rt (aB vi (by rw [eO,ak (by omega)]))
    | exact H.rt (aB vi (by rw [eO,ah (by omega),ak (by omega)]))
    | exact H.rt (aB vi (by rw [eO,ah (by omega),ah (by omega),← he,jq hk2,ak (by omega)]))
    | exact H.rt (aB vi (by rw [eO,ah (by omega),ah (by omega),← he,jq hk2,ah (by omega),ak (by omega)]))
    | exact H.rt (aB vi (by rw [eO,ah (by omega),ah (by omega),← he,jq hk2,ah (by omega),ah (by omega),ak p45]))
    | exact H.rt (aB vi (by rw [eO,ah (by omega),ah (by omega),← he,jq hk2,ah (by omega),ah (by omega),ah p45,ak (by omega)]))
    | exact H.rt (aB vi (by rw [eO,ah (by omega),ah (by omega),← he,lG (by omega)];rfl))
  intro mY a H
  try have p30:=dF mY
  refine kP H (Kc jd (SQ fun _ pU=>SR fun _ pV=>dU alc kR 0 rfl rfl (Rm rfl (Rd rfl ?_))));clear H jd;intro a H;rw [show ((k:Int)+1)=((k+1:Nat):Int) from rfl] at H;refine s_call ajg H wn rfl (apo _ _ H.ro l[k].yC ((k+1:Nat):Int) (ht _ (lH hk2))) rfl ?_;clear H;rintro v43 J6 a w rfl CY H;refine kH H (aF pV rfl (SR fun _ xE=>Rm rfl (Rc rfl (Kz xE (Cd rfl ?_ ?_))))) <;> clear H pV xE
  ·intro h45 a H
   try have p45:=dT h45
   refine kP H (SR fun _ AL=>Rm rfl (aF AL rfl ?_));clear H AL;intro a H;refine lr H results185 rfl ?_
   first
    | exact H.rt (aB vi (by rw [eO,ak (by omega)]))
    | exact H.rt (aB vi (by rw [eO,ah (by omega),ak (by omega)]))
    | exact H.rt (aB vi (by rw [eO,ah (by omega),ah (by omega),← he,jq hk2,ak (by omega)]))
    | exact H.rt (aB vi (by rw [eO,ah (by omega),ah (by omega),← he,jq hk2,ah (by omega),ak (by omega)]))
    | exact H.rt (aB vi (by rw [eO,ah (by omega),ah (by omega),← he,jq hk2,ah (by omega),ah (by omega),ak p45]))
    | exact H.rt (aB vi (by rw [eO,ah (by omega),ah (by omega),← he,jq hk2,ah (by omega),ah (by omega),ah p45,ak (by omega)]))
    | exact H.rt (aB vi (by rw [eO,ah (by omega),ah (by omega),← he,lG (by omega)];rfl))
  intro h45 a H
  try have p45:=dF h45
  refine kP H (Kc pU (SR fun _ yJ=>dU ZY aT 0 rfl rfl (Rc rfl (Rm rfl (Sp 50 rfl ?_ ?_))))) <;> clear H pU
  ·intro h50 a H
   try have p50:=dT h50
   refine kH H (fU h50 rfl (fU h50 rfl (Pt h50 rfl (Kz yJ (Ct rfl rfl (SR fun _ AO=>aF AO rfl ?_))))));clear H yJ AO;intro a H;refine lr H results185 rfl ?_
   first
    | exact H.rt (aB vi (by rw [eO,ak (by omega)]))
    | exact H.rt (aB vi (by rw [eO,ah (by omega),ak (by omega)]))
    | exact H.rt (aB vi (by rw [eO,ah (by omega),ah (by omega),← he,jq hk2,ak (by omega)]))
    | exact H.rt (aB vi (by rw [eO,ah (by omega),ah (by omega),← he,jq hk2,ah (by omega),ak (by omega)]))
    | exact H.rt (aB vi (by rw [eO,ah (by omega),ah (by omega),← he,jq hk2,ah (by omega),ah (by omega),ak p45]))
    | exact H.rt (aB vi (by rw [eO,ah (by omega),ah (by omega),← he,jq hk2,ah (by omega),ah (by omega),ah p45,ak (by omega)]))
    | exact H.rt (aB vi (by rw [eO,ah (by omega),ah (by omega),← he,lG (by omega)];rfl))
  intro h50 a H
  try have p50:=dF h50
  refine kH H (YF ZY h50 rfl (YO aT 0 h50 rfl (YM h50 rfl (YC h50 rfl (Pf h50 rfl (Kz yJ (Cd rfl ?_ ?_))))))) <;> clear H yJ
  ·intro TL a H
   try have p55:=dT TL
   refine kP H (SR fun _ AQ=>aF AQ rfl ?_);clear H AQ;intro a H;refine lr H results185 rfl ?_
   first
    | exact H.rt (aB vi (by rw [eO,ak (by omega)]))
    | exact H.rt (aB vi (by rw [eO,ah (by omega),ak (by omega)]))
    | exact H.rt (aB vi (by rw [eO,ah (by omega),ah (by omega),← he,jq hk2,ak (by omega)]))
    | exact H.rt (aB vi (by rw [eO,ah (by omega),ah (by omega),← he,jq hk2,ah (by omega),ak (by omega)]))
    | exact H.rt (aB vi (by rw [eO,ah (by omega),ah (by omega),← he,jq hk2,ah (by omega),ah (by omega),ak p45]))
    | exact H.rt (aB vi (by rw [eO,ah (by omega),ah (by omega),← he,jq hk2,ah (by omega),ah (by omega),ah p45,ak (by omega)]))
    | exact H.rt (aB vi (by rw [eO,ah (by omega),ah (by omega),← he,lG (by omega)];rfl))
  intro TL a H
  try have p55:=dF TL
  refine kP H (Kc fQ (SC (Rd rfl (Rm rfl ?_))));clear H fQ;intro a H;refine aC ?_;refine dx ((k+1,J6)) (by exact (H.dX (Pl:=[_]) (dN:=[]) [] (by decide) rfl).sub ⟨rfl,rfl,rfl,aL⟩) ?_
  (try dsimp only);exact ⟨by omega,by rw [jq hk2,ah (by omega),ah (by omega),ah p45,ah (by omega)] at he;exact he,fun b o h=>CY b o (hgm b o h)⟩
 intro eT a H
 try have jZ:=dF eT
 refine jI ?_;refine K7 _ _ ?_;clear K7;refine kP H (SR fun _ AU=>aF AU rfl ?_);clear H AU;intro a H;refine lr H results185 rfl ?_
 first
  | exact H.rt (aB vi (by rw [eO,ak (by omega)]))
  | exact H.rt (aB vi (by rw [eO,ah (by omega),ak (by omega)]))
  | exact H.rt (aB vi (by rw [eO,ah (by omega),ah (by omega),← he,jq hk2,ak (by omega)]))
  | exact H.rt (aB vi (by rw [eO,ah (by omega),ah (by omega),← he,jq hk2,ah (by omega),ak (by omega)]))
  | exact H.rt (aB vi (by rw [eO,ah (by omega),ah (by omega),← he,jq hk2,ah (by omega),ah (by omega),ak p45]))
  | exact H.rt (aB vi (by rw [eO,ah (by omega),ah (by omega),← he,jq hk2,ah (by omega),ah (by omega),ah p45,ak (by omega)]))
  | exact H.rt (aB vi (by rw [eO,ah (by omega),ah (by omega),← he,lG (by omega)];rfl))
instance zq:Ty prog 32 1 24 [.slice none 0 0] false:=⟨by kernel_rfl,by kernel_rfl⟩
theorem xC:prog.underlying 32=some (.slice 93):=by kernel_rfl
instance:lD prog 32 (.slice 93):=⟨xC⟩
instance sH:Ty prog 93 2 32 [.int .i64 0,.slice none 0 0] true:=⟨by kernel_rfl,by kernel_rfl⟩
instance ZV:dR prog 93 0 0:=⟨by kernel_rfl⟩
instance WW:Ty prog 91 1 24 [.slice none 0 0] false:=⟨by kernel_rfl,by kernel_rfl⟩
theorem Sn:∀ args w,(callFunc 125 args).run prog w=.ok (.enter 125 args) w:=enters func125 rfl (by kernel_rfl)
instance Tp:dR prog 93 1 1:=⟨by kernel_rfl⟩
theorem aiN:∀ args w,(callFunc 185 args).run prog w=.ok (.enter 185 args) w:=enters func185 rfl (by kernel_rfl)
theorem Iu:∀ args w,(callFunc 123 args).run prog w=.ok (.enter 123 args) w:=enters func123 rfl (by kernel_rfl)
theorem aiM:∀ args w,(callFunc 184 args).run prog w=.ok (.enter 184 args) w:=enters func184 rfl (by kernel_rfl)
theorem aiL:∀ args w,(callFunc 183 args).run prog w=.ok (.enter 183 args) w:=enters func183 rfl (by kernel_rfl)
structure eD where
 id:Int
 levels:List jH
def eD.dat (x:eD):List Dat:=[li x.id,.sl 4 (x.levels.map jH.dat)]
structure fM where
 id:Int
 parent:Int
 author:ByteArray
 time:Int
 text:ByteArray
 done:Bool
def fM.dat (x:fM):List Dat:=[li x.id,li x.parent,.lf (.string x.author),li x.time,.lf (.string x.text),.lf (.bool x.done)]
abbrev fM.cells (x:fM):List aj:=[vi x.id,vi x.parent,.string x.author,vi x.time,.string x.text,.bool x.done]
structure iT where
 name:ByteArray
 value:ByteArray
def iT.dat (x:iT):List Dat:=[.lf (.string x.name),.lf (.string x.value)]
abbrev iT.cells (x:iT):List aj:=[.string x.name,.string x.value]
theorem NU {G:GH} {x:fM} {cs:List aj} (h:aV G x.dat cs):cs=x.cells:=by
 simp only [fM.dat,aV,au] at h
 obtain ⟨_,_,rfl,⟨rfl,_⟩,_,_,rfl,⟨rfl,_⟩,_,_,rfl,⟨rfl,_⟩,_,_,rfl,⟨rfl,_⟩,_,_,rfl,⟨rfl,_⟩,_,_,rfl,⟨rfl,_⟩,rfl⟩:=h
 rfl
theorem Xd {G:GH} {x:iT} {cs:List aj} (h:aV G x.dat cs):cs=x.cells:=by
 simp only [iT.dat,aV,au] at h
 obtain ⟨_,_,rfl,⟨rfl,_⟩,_,_,rfl,⟨rfl,_⟩,rfl⟩:=h
 rfl
theorem VH {G:GH} {l:List eD} {A:Option Addr} {n c k:Nat} (hv:au G (.sl 2 (l.map eD.dat)) (.slice A n c)) (hk:k < l.length):∃ b o B d,A=some ⟨b,o,none⟩∧(∀ j u,[vi l[k].id,.slice B l[k].levels.length d][j]?=some u→aH G b (o+k*2+j)=some u)∧au G (.sl 4 (l[k].levels.map jH.dat)) (.slice B l[k].levels.length d):=by
 obtain ⟨A',c',he,_,_,hg⟩:=hv.slice
 injection he with e1 e2 e3
 subst e1;obtain ⟨b,o,cs,h1,h2,h3,h4⟩:=hg k l[k].dat (by simp [hk])
 simp only [eD.dat,aV] at h4
 obtain ⟨v1,_,rfl,⟨rfl,-⟩,v2,_,rfl,hl,rfl⟩:∃ v vs,cs=v :: vs∧au G (li l[k].id) v∧∃ v2 vs2,vs=v2 :: vs2∧au G (.sl 4 (l[k].levels.map jH.dat)) v2∧vs2=[]:=h4;obtain ⟨B,d,rfl,-,-,-⟩:=hl.slice;rw [bO] at *;exact ⟨b,o,B,d,h1,h3,hl⟩
theorem aph {G:GH} {bl:Nat} {l:List eD} {A:Option Addr} {n c:Nat} (hb:aH G bl 0=some (.slice A n c)) (hv:au G (.sl 2 (l.map eD.dat)) (.slice A n c)):uH (.func (.func 184) #[] #[(aM bl 0)]) G l.length fun k=>(l[k]?.map eD.id).getD 0:=by
 intro k hk G1 w0 hm hG;refine jo (caps:=[(aM bl 0)]) aiM ?_;replace hb:=aG hm hb
 obtain rfl:n=l.length:=by have:=hv.len;simpa using this
 obtain ⟨b,o,B,d,rfl,hrow,-⟩:=VH (hv.mono hm) hk;have hq:=hrow 0 _ rfl;refine eN [(0,_),(1,_)] func184 rfl ntmps184 rfl rfl hG ?_;intro a H;refine kP H (SR fun _ K1=>aF K1 rfl (SR fun _ K2=>Rg zq rfl (by assumption) ?_));clear H K1;intro a H;refine kH H (Rm rfl (Ri xC sH rfl rfl (Rf ZV rfl (Rg aT rfl (by assumption) ?_))));clear H;intro a H;exact kH H (aF K2 rfl (LR results184 rfl fun H=>H.rt (by dsimp only;rw [dZ hk];rfl)))
def GJ (l:List eD) (i:Nat):Int:=dY [qm (fun k=>(l[k]?.map eD.id).getD 0) i,eO ((l[i]?.map eD.levels).getD [])]
theorem apk {G:GH} {bl:Nat} {l:List eD} {A:Option Addr} {n c:Nat} (hb:aH G bl 0=some (.slice A n c)) (hv:au G (.sl 2 (l.map eD.dat)) (.slice A n c)) (hl:l.length≤4294967296) (ht:∀ x∈l,∀ y∈x.levels,y.yC.size < 4611686018427387904):uH (.func (.func 183) #[] #[(aM bl 0)]) G l.length (GJ l):=by
 intro k hk G1 w0 hm hG;refine jo (caps:=[(aM bl 0)]) aiL ?_;replace hb:=aG hm hb;replace hv:=hv.mono hm;have hcb:=aph hb hv
 obtain rfl:n=l.length:=by have:=hv.len;simpa using this
 obtain ⟨b,o,B,d,rfl,hrow,hlv⟩:=VH hv hk;have hq:=hrow 1 _ rfl
 have he:GJ l k=dY [qm (fun k=>(l[k]?.map eD.id).getD 0) k,eO l[k].levels]:=by unfold GJ;rw [dZ hk];rfl
 refine eN [(0,_),(1,_)] func183 rfl ntmps183 rfl rfl hG ?_;intro a H;refine kP H (SR fun _ K1=>aF K1 rfl (SQ fun _ K2=>?_));clear H K1;intro a H;have H:=H.sub (T':=[(0,_),(1,_)]) ⟨rfl,rfl,aL⟩;refine dI hmx [[],[],[0,1],[],[],[3,4],[3,4,5],(ra 3 4),(ra 0 8),(ra 0 9),(ra 0 10),(ra 0 11)] [9,10,11] (by kernel_rfl) [_,.func (.func 184) #[] #[(aM bl 0)],vi (qm (fun k=>(l[k]?.map eD.id).getD 0) k),_,_,_,_,_,vi (eO l[k].levels)] H (aD (Z0 rfl (Rm rfl)) ?_ ?_ (X0 rfl fun hG=>Rg zq rfl (aG hG hb)) (aD (Z0 rfl (Rm rfl)) (Z2 3 7 4 8 rfl (Ri xC sH rfl rfl)) (Z1 5 9 rfl (Rf Tp rfl)) (X1 6 10 rfl fun hG=>Rg WW rfl (aG hG hq)) (aD ?_ (bS rfl) (bS rfl) (bS rfl) cO))) ?_
 ·refine Co rfl fun _ a w G1 hG HT H fin=>?_;refine qy H wn rfl rfl ?_;clear H;intro a H;exact fin H iJ rfl
 ·refine dL 0 4 1 5 rfl rfl fun _ a w G1 hG HT H fin=>?_;refine s_call Sn H wn rfl (Vs _ _ H.ro k _ _ (by omega) (fun i hi=>(hcb.mono hG) i (by omega))) rfl ?_;clear H;rintro v6 G6 a w rfl gM H;exact fin H gM (rfl)
 ·refine eu 7 11 rfl rfl fun _ a w G1 hG HT H fin=>?_;refine s_call aiN H wn rfl (agC _ _ H.ro _ _ (hlv.mono hG) (ht _ (lH hk))) rfl ?_;clear H;rintro v12 Cm a w rfl nW H;exact fin H nW (rfl)
 clear H;intro a w G iY H hv;have H:=H.aN (hv 2 6 rfl rfl) rfl;have H:=H.aN (hv 8 12 rfl rfl) rfl;clear hv;refine gQ qz iD [_,_] [_,_] H wn rfl rfl rfl rfl rfl (by intro i q h;match i,h with|0,h=>exact h|1,h=>exact h|n+2,h=>simp at h) rfl rfl ?_;clear H;intro b13 a w OO H;obtain ⟨DR,yT,amm,H⟩:=H.eB;refine s_call rT H wn rfl (rU _ _ H.ro _ _ (zo amm)) rfl ?_;clear H;rintro v14 _ a w ⟨rfl,rfl⟩ - H;refine kH H (Ra rfl ?_);clear H;intro a H;refine aC ⟨rfl,?_⟩;refine K2 _ _ ?_;clear K2;refine lr H results183 rfl ?_;exact H.rt (by rw [he])
def Kv (l:List eD):Int:=dY [dh (decide (64 < (l.length:Int))) 9,kr (GJ l) (min l.length 64)]
theorem uH.le {fv:aj} {G:GH} {n m:Nat} {E:Nat→Int} (h:uH fv G n E) (hm:m≤n):uH fv G m E:=fun i hi=>h i (by omega)
theorem agD (G:GH) (w0:World) (hG:Hold G w0) (l:List eD) (v:aj) (hv:au G (.sl 2 (l.map eD.dat)) v) (hl:l.length≤4294967296) (ht:∀ x∈l,∀ y∈x.levels,y.yC.size < 4611686018427387904) :
  Calls prog 120 #[v] w0 (bB w0 G fun u G'=>u=vi (Kv l)):=by
 obtain ⟨A,c,rfl,hc1,hc2,-⟩:=hv.slice;rw [bO] at *;refine eN [(0,_)] func120 rfl ntmps120 rfl rfl hG ?_;intro a H;refine fK (fun _ K1=>?_);refine dW (cs:=[_]) H wn rfl rfl rfl ?_;clear H;intro b1 a w hb1 H;refine kH H (aF K1 rfl (SQ fun _ K2=>?_));clear H K1;intro a H;have H:=H.sub (T':=[(1,_)]) ⟨rfl,aL⟩;obtain ⟨Ga,hma,hb1',H⟩:=H.eB
 have hbl:aH Ga b1 0=some (.slice A l.length c):=by unfold aH;rw [hb1'];rfl
 have hcb:=apk hbl (hv.mono hma) hl ht;refine dI hmx [[],[0],[0,1],[0,1,2],[],[4],[4,5],[],(ra 0 8),(ra 0 9),(ra 0 10),(ra 0 11)] [9,10,11] (by kernel_rfl) [_,_,_,vi (dh (decide (64 < (l.length:Int))) 9),_,_,vi ((min l.length 64:Nat):Int),.func (.func 183) #[] #[(aM b1 0)],vi (kr (GJ l) (min l.length 64))] H (aD (X0 rfl fun hG=>Rg zq rfl (aG hG hbl)) (Z1 0 3 rfl (Rl xC rfl)) (Z1 1 4 rfl (Rc rfl)) ?_ (aD (X0 rfl fun hG=>Rg zq rfl (aG hG hbl)) (Z1 4 7 rfl (Rl xC rfl)) ?_ ?_ (aD ?_ (bS rfl) (bS rfl) (bS rfl) cO))) ?_
 ·refine eu 2 5 rfl rfl fun _ a w G1 hG HT H fin=>?_;refine s_call jQ H wn rfl (jU _ _ H.ro _ 9) rfl ?_;clear H;rintro v6 G6 a w ⟨rfl,-⟩ gM H;exact fin H gM (rfl)
 ·refine eu 5 8 rfl rfl fun _ a w G1 hG HT H fin=>?_;refine Qt H wn rfl rfl rfl ?_;clear H;intro a H;exact fin H iJ (aB vi (by omega))
 ·refine Co rfl fun _ a w G1 hG HT H fin=>?_;refine qy H wn rfl rfl ?_;clear H;intro a H;exact fin H iJ rfl
 ·refine dL 6 9 7 10 rfl rfl fun _ a w G1 hG HT H fin=>?_;refine s_call Iu H wn rfl (Km _ _ H.ro (min l.length 64) (GJ l) _ (by omega) ((hcb.mono hG).le (Nat.min_le_left _ _))) rfl ?_;clear H;rintro v11 tC a w rfl mF H;exact fin H mF (rfl)
 clear H;intro a w G iY H hv;have H:=H.aN (hv 3 6 rfl rfl) rfl;have H:=H.aN (hv 8 11 rfl rfl) rfl;clear hv;refine gQ qz iD [_,_] [_,_] H wn rfl rfl rfl rfl rfl (by intro i q h;match i,h with|0,h=>exact h|1,h=>exact h|n+2,h=>simp at h) rfl rfl ?_;clear H;intro b12 a w FR H;obtain ⟨Cm,CW,FT,H⟩:=H.eB;refine s_call rT H wn rfl (rU _ _ H.ro _ _ (zo FT)) rfl ?_;clear H;rintro v13 _ a w ⟨rfl,rfl⟩ - H;refine kH H (Ra rfl ?_);clear H;intro a H;refine aC ⟨rfl,?_⟩;refine K2 _ _ ?_;clear K2;refine lr H results120 rfl ?_;exact H.rt rfl
theorem sI:prog.underlying 31=some (.slice 192):=by kernel_rfl
instance:lD prog 31 (.slice 192):=⟨sI⟩
instance jK:Ty prog 192 6 72 [.int .i64 0,.int .i64 0,.string ⟨#[]⟩,.int .i64 0,.int .i64 0,.slice none 0 0] true:=⟨by kernel_rfl,by kernel_rfl⟩
instance Ti:dR prog 192 1 1:=⟨by kernel_rfl⟩
instance akX:dR prog 192 2 2:=⟨by kernel_rfl⟩
instance Bo:dR prog 192 0 0:=⟨by kernel_rfl⟩
theorem Zr:∀ args w,(callFunc 243 args).run prog w=.ok (.enter 243 args) w:=enters func243 rfl (by kernel_rfl)
theorem ajf:∀ args w,(callFunc 221 args).run prog w=.ok (.enter 221 args) w:=enters func221 rfl (by kernel_rfl)
theorem ajn:∀ args w,(callFunc 244 args).run prog w=.ok (.enter 244 args) w:=enters func244 rfl (by kernel_rfl)
theorem ajo:∀ args w,(callFunc 245 args).run prog w=.ok (.enter 245 args) w:=enters func245 rfl (by kernel_rfl)
structure bU where
 id:Int
 kind:Int
 name:ByteArray
 base:Int
 next:Int
 props:List aS
def bU.dat (x:bU):List Dat:=[li x.id,li x.kind,.lf (.string x.name),li x.base,li x.next,.sl 2 (x.props.map aS.dat)]
theorem ML {G:GH} {x:bU} {cs:List aj} (h:aV G x.dat cs):∃ A c,cs=[vi x.id,vi x.kind,.string x.name,vi x.base,vi x.next,.slice A x.props.length c]∧au G (.sl 2 (x.props.map aS.dat)) (.slice A x.props.length c):=by
 simp only [bU.dat,aV] at h
 obtain ⟨v1,_,rfl,h1,v2,_,rfl,h2,v3,_,rfl,h3,v4,_,rfl,h4,v5,_,rfl,h5,v6,_,rfl,h6,rfl⟩:=h
 simp only [au] at h1 h2 h3 h4 h5
 obtain ⟨rfl,-⟩:=h1;obtain ⟨rfl,-⟩:=h2;obtain ⟨rfl,-⟩:=h3;obtain ⟨rfl,-⟩:=h4;obtain ⟨rfl,-⟩:=h5;obtain ⟨A,c,rfl,-,-,-⟩:=h6.slice;rw [bO] at *;exact ⟨A,c,rfl,h6⟩
theorem Du {G:GH} {l:List bU} {A:Option Addr} {n c k:Nat} (hv:au G (.sl 6 (l.map bU.dat)) (.slice A n c)) (hk:k < l.length):∃ b o pA pc,A=some ⟨b,o,none⟩∧(∀ j u,[vi l[k].id,vi l[k].kind,.string l[k].name,vi l[k].base,vi l[k].next,.slice pA l[k].props.length pc][j]?=some u→aH G b (o+k*6+j)=some u)∧au G (.sl 2 (l[k].props.map aS.dat)) (.slice pA l[k].props.length pc) ∧
  aV G l[k].dat [vi l[k].id,vi l[k].kind,.string l[k].name,vi l[k].base,vi l[k].next,.slice pA l[k].props.length pc]:=by
 obtain ⟨A',c',he,_,_,hg⟩:=hv.slice
 injection he with e1 e2 e3
 subst e1;obtain ⟨b,o,cs,h1,h2,h3,h4⟩:=hg k l[k].dat (by simp [hk]);obtain ⟨pA,pc,rfl,hp⟩:=ML h4;exact ⟨b,o,pA,pc,h1,h3,hp,h4⟩
def okB (x:Int):Bool:=decide (32≤x∧x≤126)
def GN (s:ByteArray) (k:Nat):Bool:=(List.range k).all fun i=>okB (gH s i)
def oO (s:ByteArray):Bool:=decide (s.size≠0∧s.size≤40∧gH s 0≠32∧gH s (s.size - 1)≠32) && GN s s.size
theorem apC (s:ByteArray) (k:Nat):GN s (k+1)=(GN s k && okB (gH s k)):=by simp [GN,List.range_succ]
theorem GQ {s:ByteArray} {k:Nat} (hk:k < s.size) (h:okB (gH s k)=false):GN s s.size=false:=by
 rw [GN,List.all_eq_false];exact ⟨k,by simpa using hk,by simp [h]⟩
theorem Pz (G:GH) (w0:World) (hG:Hold G w0) (s:ByteArray) (hs:s.size≤4611686018427387904):Calls prog 218 #[.string s] w0 (bB w0 G fun u G'=>u=.bool (oO s)):=by
 refine eN [(0,_)] func218 rfl ntmps218 rfl rfl hG ?_;refine mX 9 7 ?_ ?_
 ·intro h7
  try have p7:=dT h7
  refine bP 22 ?_
  first
   | exact (dG (by rw [oO,jf (by omega),xI]))
   | exact (dG (by rw [oO,iO (by omega),show s.size=k by omega,hno];rfl))
   | exact (dG (by rw [oO,GQ (k:=k) (by omega) (jf (by omega)),Bool.and_false]))
 intro h7
 try have p7:=dF h7
 refine av 1 ?_;intro a H;refine ES jB H (wg H rfl rfl h7) rfl rfl ?_;clear H;refine mX 3 12 ?_ ?_
 ·intro h12
  try have qo:=dT h12
  refine bP 17 ?_
  first
   | exact (dG (by rw [oO,jf (by omega),xI]))
   | exact (dG (by rw [oO,iO (by omega),show s.size=k by omega,hno];rfl))
   | exact (dG (by rw [oO,GQ (k:=k) (by omega) (jf (by omega)),Bool.and_false]))
 intro h12
 try have qo:=dF h12
 refine av 1 ?_;intro a H;refine qx 0 jB H (wg H rfl rfl h12) rfl rfl rfl (by omega) rfl ?_;clear H;intro a H;rw [← mD] at H;refine qd 3 17 H ?_ ?_ <;> clear H
 ·intro eT
  try have jZ:=dT eT
  refine bP 12 ?_
  first
   | exact (dG (by rw [oO,jf (by omega),xI]))
   | exact (dG (by rw [oO,iO (by omega),show s.size=k by omega,hno];rfl))
   | exact (dG (by rw [oO,GQ (k:=k) (by omega) (jf (by omega)),Bool.and_false]))
 intro eT
 try have jZ:=dF eT
 refine av 2 ?_;intro a H;refine ES jB H (wg H rfl rfl eT) rfl rfl ?_;clear H;intro a H;refine og _ H (wg H rfl rfl eT) rfl rfl rfl (by omega) (by omega) rfl ?_;clear H;intro a H;refine qx (s.size - 1) jB H (wg H rfl rfl eT) rfl rfl (by omega) (by omega) rfl ?_;clear H;intro a H;rw [← mD] at H;refine qb 3 H ?_ ?_ <;> clear H
 ·intro jT
  refine bP 3 ?_
  first
   | exact (dG (by rw [oO,jf (by omega),xI]))
   | exact (dG (by rw [oO,iO (by omega),show s.size=k by omega,hno];rfl))
   | exact (dG (by rw [oO,GQ (k:=k) (by omega) (jf (by omega)),Bool.and_false]))
 intro jT
 refine av 8 ?_;intro a H;refine eH (ι:=Nat) (Tc:=[(0,_),(26,_)]) (Lc:=[]) (fun gh=>[(27,vi gh)]) (fun gh=>[]) (fun gh=>G) (fun gh=>gh≤s.size∧GN s gh=true) (fun gh=>s.size - gh) (0) sB ?_ ?_
 ·exact ⟨iH _,rfl⟩
 clear H;intro k a w hI H;obtain ⟨hk,hno⟩:=hI;dsimp only [lca,bK] at H;refine iI 4 H ?_ ?_ <;> clear H
 ·intro p28
  refine av 10 ?_;intro a H;refine qx k jB H wn rfl rfl rfl (by omega) rfl ?_;clear H;intro a H;rw [← mD] at H;refine qd 2 34 H ?_ ?_ <;> clear H
  ·intro mZ
   try have p34:=dT mZ
   refine bP 10 ?_
   first
    | exact (dG (by rw [oO,jf (by omega),xI]))
    | exact (dG (by rw [oO,iO (by omega),show s.size=k by omega,hno];rfl))
    | exact (dG (by rw [oO,GQ (k:=k) (by omega) (jf (by omega)),Bool.and_false]))
  intro mZ
  try have p34:=dF mZ
  refine av 2 ?_;intro a H;refine qx k jB H (wg H rfl rfl mZ) rfl rfl rfl (by omega) rfl ?_;clear H;intro a H;rw [← mD] at H;refine qb 3 H ?_ ?_ <;> clear H
  ·intro p39
   refine bP 3 ?_
   first
    | exact (dG (by rw [oO,jf (by omega),xI]))
    | exact (dG (by rw [oO,iO (by omega),show s.size=k by omega,hno];rfl))
    | exact (dG (by rw [oO,GQ (k:=k) (by omega) (jf (by omega)),Bool.and_false]))
  intro p39
  refine av 4 ?_;intro a H;refine aC ?_;refine dx ((k+1)) sB ?_
  exact ⟨by omega,by rw [apC,hno];simp [okB];omega⟩
 intro p28
 refine bP 4 ?_
 first
  | exact (dG (by rw [oO,jf (by omega),xI]))
  | exact (dG (by rw [oO,iO (by omega),show s.size=k by omega,hno];rfl))
  | exact (dG (by rw [oO,GQ (k:=k) (by omega) (jf (by omega)),Bool.and_false]))
theorem abS (G:GH) (w0:World) (hG:Hold G w0) (l:List bU) (p:bU→Bool) (v fv:aj) (hv:au G (.sl 6 (l.map bU.dat)) v) (hf:∀ x∈l,tH fv G x.dat (p x)) :
  Calls prog 243 #[v,fv] w0 (bB w0 G fun u G'=>u=vi (oC (l.findIdx? p))):=by
 obtain ⟨A,c,rfl,hc1,hc2,-⟩:=hv.slice;have hml:maxLen=9223372036854775807:=rfl;rw [bO] at *;refine eN [(0,_),(1,_)] func243 rfl ntmps243 rfl rfl hG ?_;refine av 10 ?_;intro a H;refine eH (ι:=Nat × GH) (Tc:=[(0,_),(1,_),(7,_)]) (Lc:=[]) (fun gh=>[(8,vi gh.1)]) (fun gh=>[]) (fun gh=>gh.2) (fun gh=>gh.1≤l.length∧(l.take gh.1).findIdx? p=none∧(∀ b o,G b=some o→gh.2 b=some o)) (fun gh=>l.length - gh.1) ((0,G)) sB ?_ ?_
 ·exact ⟨by omega,rfl,fun _ _ h=>h⟩
 clear H;rintro ⟨k,g⟩ a w hI H;dsimp only at hI H;obtain ⟨hk,hno,hgm⟩:=hI;dsimp only [lca,bK] at H;refine iI 4 H ?_ ?_ <;> clear H
 ·intro p9
  have hk2:k < l.length:=by omega
  obtain ⟨b,o,pA,pc,rfl,hrow,hp,hrep⟩:=Du (hv.mono hgm) hk2;refine av 12 ?_;intro a H;refine aR jK (cs:=[_,_,_,_,_,_]) H wn rfl rfl (fun j v hj=>H.hp.aH (hrow j v hj)) rfl ?_;clear H;intro a H;refine jF H wn rfl rfl (hf _ (lH hk2) _ _ _ hgm H.ro hrep) rfl ?_;clear H;rintro v16 qC a w rfl jW H;refine lW 1 H ?_ ?_ <;> clear H
  ·intro h16
   try have p16:=dT h16
   refine bP 4 ?_
   first
    | exact (by rw [wm hk2 hno h16];rfl)
    | exact (by rw [show l.take k=l from gu (by omega)] at hno;rw [hno];rfl)
  intro h16
  try have p16:=dF h16
  refine av 4 ?_;intro a H;refine aC ?_;refine dx ((k+1,qC)) sB ?_
  (try dsimp only);exact ⟨by omega,EG hk2 hno h16,fun b o h=>jW b o (hgm b o h)⟩
 intro p9
 refine bP 4 ?_
 first
  | exact (by rw [wm hk2 hno h16];rfl)
  | exact (by rw [show l.take k=l from gu (by omega)] at hno;rw [hno];rfl)
def Mr (p q:ByteArray):Bool:=p.toList == q.toList
theorem ale {G:GH} {bk bn:Nat} {kind:Int} {name:ByteArray} (hk:aH G bk 0=some (vi kind)) (hn:aH G bn 0=some (.string name)) (x:bU):tH (.func (.func 244) #[] #[(aM bk 0),(aM bn 0)]) G x.dat (decide (x.kind=kind) && Mr x.name name):=by
 intro G1 w0 cs hm hG hr;refine jo (caps:=[(aM bk 0),(aM bn 0)]) ajn ?_;obtain ⟨pA,pc,rfl,-⟩:=ML hr;replace hk:=aG hm hk;replace hn:=aG hm hn;refine eN [(0,_),(1,_),(2,_)] func244 rfl ntmps244 rfl rfl hG ?_;refine av 1 ?_;intro a H;refine dW (cs:=[_,_,_,_,_,_]) H wn rfl rfl rfl ?_;clear H;intro b3 a w hb3 H;refine qd 8 9 H ?_ ?_ <;> clear H
 ·intro h9
  try have p9:=dT h9
  refine av 3 ?_;intro a H;refine BZ H (wg H rfl rfl h9) rfl rfl rfl ?_;clear H;refine bP 3 ?_;unfold Mr;simp_all
 intro h9
 try have p9:=dF h9
 refine bP 7 ?_;unfold Mr;simp_all
theorem ald {G:GH} {bi:Nat} {id:Int} (hb:aH G bi 0=some (vi id)) (x:bU):tH (.func (.func 245) #[] #[(aM bi 0)]) G x.dat (decide (x.id=id)):=by
 intro G1 w0 cs hm hG hr;refine jo (caps:=[(aM bi 0)]) ajo ?_;obtain ⟨pA,pc,rfl,-⟩:=ML hr;replace hb:=aG hm hb;refine eN [(0,_),(1,_)] func245 rfl ntmps245 rfl rfl hG ?_;refine av 1 ?_;intro a H;refine dW (cs:=[_,_,_,_,_,_]) H wn rfl rfl rfl ?_;clear H;intro b2 a w hb2 H;refine kJ 9 H ?_;exact rfl
def El (l:List bU) (kind:Int) (name:ByteArray):Option Nat:=l.findIdx? fun x=>decide (x.kind=kind) && Mr x.name name
def Ow (l:List bU) (id:Int):Option Nat:=l.findIdx? fun x=>decide (x.id=id)
theorem abY (o:Option Nat):decide (0≤oC o)=o.isSome:=by cases o <;> simp [oC]
theorem alf (G:GH) (w0:World) (hG:Hold G w0) (l:List bU) (kind:Int) (name:ByteArray) (v:aj) (hv:au G (.sl 6 (l.map bU.dat)) v) :
  Calls prog 219 #[v,vi kind,.string name] w0 (bB w0 G fun u G'=>u=.tuple #[vi (max (oC (El l kind name)) 0),.bool (El l kind name).isSome]):=by
 obtain ⟨A,c,rfl,hc1,hc2,-⟩:=hv.slice;rw [bO] at *;refine eN [(0,_),(1,_),(2,_)] func219 rfl ntmps219 rfl rfl hG ?_;refine av 1 ?_;intro a H;refine dW (cs:=[_]) H wn rfl rfl rfl ?_;clear H;intro b4 a w hb4 H;refine dW (cs:=[_]) H wn rfl rfl rfl ?_;clear H;intro b5 a w hb5 H;refine bJ 3 H ?_;clear H;intro a H;obtain ⟨Ga,hma,Bz,H⟩:=H.eB;obtain ⟨Gb,hmb,xR,H⟩:=H.eB
 have q4:aH Gb b4 0=some (vi kind):=by unfold aH;rw [xR];rfl
 have q5:aH Gb b5 0=some (.string name):=by unfold aH;rw [hmb _ _ Bz];rfl
 refine mE 2 H ?_;clear H;intro a H;refine qy H wn rfl rfl ?_;clear H;intro a H;refine s_call Zr H wn rfl (abS _ _ H.ro l (fun x=>decide (x.kind=kind) && Mr x.name name) _ _ ((hv.mono hma).mono hmb) (fun x _=>ale q4 q5 x)) rfl ?_;clear H;rintro v11 tC a w rfl CV H;refine bJ 4 H ?_;clear H;intro a H;refine Qs H wn rfl rfl rfl ?_;clear H;refine av 5 ?_;intro a H;refine cK ?_;refine (fE H results219 (.cons (bq H rfl) (.cons (bq H rfl) .nil)) ?_).1;exact H.rt (by rw [← abY];rfl)
theorem alg (G:GH) (w0:World) (hG:Hold G w0) (l:List bU) (id:Int) (v:aj) (hv:au G (.sl 6 (l.map bU.dat)) v) :
  Calls prog 221 #[v,vi id] w0 (bB w0 G fun u G'=>u=.tuple #[vi (max (oC (Ow l id)) 0),.bool (Ow l id).isSome]):=by
 obtain ⟨A,c,rfl,hc1,hc2,-⟩:=hv.slice;rw [bO] at *;refine eN [(0,_),(1,_)] func221 rfl ntmps221 rfl rfl hG ?_;refine av 1 ?_;intro a H;refine dW (cs:=[_]) H wn rfl rfl rfl ?_;clear H;intro b3 a w hb3 H;refine bJ 3 H ?_;clear H;intro a H;obtain ⟨Ga,hma,uf,H⟩:=H.eB
 have q3:aH Ga b3 0=some (vi id):=by unfold aH;rw [uf];rfl
 refine mE 2 H ?_;clear H;intro a H;refine qy H wn rfl rfl ?_;clear H;intro a H;refine s_call Zr H wn rfl (abS _ _ H.ro l (fun x=>decide (x.id=id)) _ _ (hv.mono hma) (fun x _=>ald q3 x)) rfl ?_;clear H;rintro v9 G9 a w rfl Aa H;refine bJ 4 H ?_;clear H;intro a H;refine Qs H wn rfl rfl rfl ?_;clear H;refine av 5 ?_;intro a H;refine cK ?_;refine (fE H results221 (.cons (bq H rfl) (.cons (bq H rfl) .nil)) ?_).1;exact H.rt (by rw [← abY];rfl)
def GA (l:List bU) (kind id:Int):Bool:=match Ow l id with|some i=>decide ((l[i]?.map bU.kind)=some kind)|none=>false
theorem Vv (G:GH) (w0:World) (hG:Hold G w0) (l:List bU) (kind id:Int) (v:aj) (hv:au G (.sl 6 (l.map bU.dat)) v) :
  Calls prog 181 #[v,vi kind,vi id] w0 (bB w0 G fun u G'=>u=.bool (GA l kind id)):=by
 obtain ⟨A,c,rfl,hc1,hc2,-⟩:=hv.slice;rw [bO] at *;refine eN [(0,_),(1,_),(2,_)] func181 rfl ntmps181 rfl rfl hG ?_;refine av 6 ?_;intro a H;refine s_call ajf H wn rfl (alg _ _ H.ro l id _ hv) rfl ?_;clear H;rintro v12 Cm a w rfl CW H;obtain ⟨o,ho⟩:∃ o,o=Ow l id:=⟨_,rfl⟩;rw [← ho] at H;refine bJ 1 H ?_;clear H;intro a H;(iterate 2 refine lQ H wn rfl rfl rfl ?_;clear H;intro a H);refine qd 6 16 H ?_ ?_ <;> clear H
 ·intro h16
  try have p16:=dT h16
  obtain ⟨i,rfl⟩:=Option.isSome_iff_exists.1 h16
  have hil:i < l.length:=by
   obtain ⟨hi,-⟩:=List.findIdx?_eq_some_iff_getElem.1 ho.symm;exact hi
  intro a H;rw [show max (oC (some i)) 0=(i:Int) by simp [oC]] at H;obtain ⟨b,o',pA,pc,rfl,hrow,hp,hrep⟩:=Du (hv.mono CW) hil;have r1:aH Cm b (o'+i*6+1)=some (vi l[i].kind):=hrow 1 _ rfl;refine kJ 10 H ?_
  first
   | exact (dG (by rw [GA,← ho];dsimp only;rw [dZ hil];simp))
   | exact (dG (by rw [GA,← ho];cases o <;> simp_all))
 intro h16
 try have p16:=dF h16
 refine bP 10 ?_
 first
  | exact (dG (by rw [GA,← ho];dsimp only;rw [dZ hil];simp))
  | exact (dG (by rw [GA,← ho];cases o <;> simp_all))
theorem Oe:∀ args w,(callFunc 218 args).run prog w=.ok (.enter 218 args) w:=enters func218 rfl (by kernel_rfl)
theorem ajd:∀ args w,(callFunc 219 args).run prog w=.ok (.enter 219 args) w:=enters func219 rfl (by kernel_rfl)
instance Tj:dR prog 192 5 5:=⟨by kernel_rfl⟩
theorem aje:∀ args w,(callFunc 220 args).run prog w=.ok (.enter 220 args) w:=enters func220 rfl (by kernel_rfl)
theorem Zd:∀ args w,(callFunc 129 args).run prog w=.ok (.enter 129 args) w:=enters func129 rfl (by kernel_rfl)
theorem au.pre {G:GH} {sz:Nat} {rows:List (List Dat)} {A:Option Addr} {n c:Nat} (h:au G (.sl sz rows) (.slice A n c)) (k:Nat) (hk:k≤rows.length):au G (.sl sz (rows.take k)) (.slice A k c):=by
 have h:=h.part 0 k (iH _) hk
 have e:(if c=0 then A else A.map (·.add (0*sz)))=A:=by
  split
  ·rfl
  cases A <;> simp [Addr.add]
 rw [e] at h
 simpa using h
theorem ahE (G:GH) (w0:World) (hG:Hold G w0) (kind:Int):Calls prog 220 #[vi kind] w0 (bB w0 G fun u G'=>u=vi (if kind=1 then 2 else 1)):=by
 refine eN [(0,_)] func220 rfl ntmps220 rfl rfl hG ?_;refine goB 8 ?_ ?_
 ·intro p4
  refine bP 3 ?_;first|(rw [ak (by omega)];done)|rw [ah (by omega)]
 intro p4
 refine bP 4 ?_;first|(rw [ak (by omega)];done)|rw [ah (by omega)]
def yZ (l:List bU) (k:Nat):Option Int:=if k=0 then none else l[k - 1]?.map bU.id
theorem P9 {l:List bU} {k:Nat} (h:k=0):yZ l k=none:=ak h
def Ii (k:Int):Bool:=decide (k=20) || decide (k=1)
def nA (q:Option Int) (dup:Bool) (s:bU):Int :=
 if s.id < 1∨1073741824 < s.id then 18 else if q=some s.id then 7 else if EK q s.id=true then 6 else if s.kind≠1∧s.kind≠2 then 3 else if oO s.name=false then 13 else if dup=true then 7
 else if s.props.any (fun p=>Ii p.key)=true then 4 else ig (if s.kind=1 then 2 else 1) s.props
def ji (l:List bU) (k:Nat) (s:bU):Int:=nA (yZ l k) (El (l.take k) s.kind s.name).isSome s
theorem aqe (G:GH) (w0:World) (hG:Hold G w0) (l:List bU) (k:Nat) (v:aj) (hv:au G (.sl 6 (l.map bU.dat)) v) (hk:k < l.length) (hs:l[k].name.size≤4611686018427387904) :
  Calls prog 180 #[v,vi k] w0 (bB w0 G fun u G'=>u=vi (ji l k l[k])):=by
 obtain ⟨A,c,rfl,hc1,hc2,-⟩:=hv.slice;have hml:maxLen=9223372036854775807:=rfl;rw [bO] at *;obtain ⟨b,o,pA,pc,rfl,hrow,hp,hrep⟩:=Du hv hk;obtain ⟨x,hx⟩:∃ x,x=l[k]:=⟨_,rfl⟩;rw [← hx] at hs hrow hp hrep ⊢;have hdp:∀ j v,[vi x.id,vi x.kind,.string x.name,vi x.base,vi x.next,.slice pA x.props.length pc][j]?=some v→aH G b (o+k*6+j)=some v:=hrow;obtain ⟨_,_,he0,avs,avt,-⟩:=hp.slice
 injection he0 with _ he1 he2
 rw [bO] at *;subst he2
 obtain ⟨pk,hpk⟩:∃ pk,0 < k→aH G b (o+(k - 1)*6+0)=some (vi pk)∧yZ l k=some pk:=by
  by_cases h0:0 < k
  ·obtain ⟨b',o',_,_,he,hr',-,-⟩:=Du hv (show k - 1 < l.length by omega)
   injection he with he
   injection he with e1 e2 e3
   subst e1;subst e2;exact ⟨_,fun _=>⟨hr' 0 _ rfl,by rw [yZ,ah (by omega),dZ (by omega)];rfl⟩⟩
  exact ⟨0,fun h=>absurd h h0⟩
 refine eN [(0,_),(1,_)] func180 rfl ntmps180 rfl rfl hG ?_;refine av 7 ?_;intro a H;refine aR jK (cs:=[_,_,_,_,_,_]) H wn rfl rfl (fun j v hj=>H.hp.aH (hrow j v hj)) rfl ?_;clear H;intro a H;refine dJ jK H wn rfl ?_;clear H;intro b5 a w hb5 H;refine aY jK 0 (vs:=[_,_,_,_,_,_]) _ H wn rfl rfl rfl rfl rfl rfl rfl rfl ?_;clear H;intro w H;dsimp only [List.set,setRow] at H;refine aC ?_;refine oH ?_;refine rR (ι:=GH) (Tc:=[(0,_),(1,_),(5,_)]) (Lc:=[(_,_)]) (fun gh=>[]) (fun gh=>[]) (fun gh=>gh) (fun gh=>¬ (x.id < 1∨1073741824 < x.id)∧¬ yZ l k=some x.id∧¬ EK (yZ l k) x.id=true∧¬ (x.kind≠1∧x.kind≠2)∧¬ oO x.name=false∧(∀ b o,G b=some o→gh b=some o)) sB ?_ ?_
 ·refine CF 6 18 H ?_ ?_ <;> clear H
  ·intro sF
   refine bP 10 ?_
   first
    | exact (aB vi e0.symm)
    | exact (aB vi e4.symm)
    | exact (aB vi e7.symm)
    | exact (aB vi e13.symm)
    | exact (aB vi e3.symm)
    | exact (aB vi e6.symm)
    | exact (aB vi (by rw [ji,nA,ak (by omega)]))
  intro sF
  refine goB 6 ?_ ?_
  ·intro lN
   refine bP 3 ?_
   first
    | exact (aB vi e0.symm)
    | exact (aB vi e4.symm)
    | exact (aB vi e7.symm)
    | exact (aB vi e13.symm)
    | exact (aB vi e3.symm)
    | exact (aB vi e6.symm)
    | exact (aB vi (by rw [ji,nA,ak (by omega)]))
  intro lN
  refine av 1 ?_
  intro a H;by_cases c0:0 < (k:Int)
  ·skip
   by_cases c1:x.id=pk
   ·refine dI hmx [[],[0],[0,1],[0,1,2],(ra 0 4),[0,1,2],[0,1,2],[0,1,2,6],[0,1,2,5,6,7],[0,1,2,5,6,7,8],[0,1,2,5,6,7,8,9],(ra 0 11),(ra 0 12),(ra 0 13)] [13] (by kernel_rfl) [_,_,_,_,vi x.id,_,_,vi ((k - 1:Nat):Int),_,_,_,_,_] H (aD (Z0 rfl (Rm rfl)) (Z1 0 24 rfl (Rc rfl)) (Z1 1 25 rfl (Rm rfl)) (Z1 2 26 rfl (YF Bo (aI c0) rfl)) (aD (Z2 3 27 2 26 rfl (YO aT 0 (aI c0) rfl)) (Z1 2 26 rfl (YM (aI c0) rfl)) (Z1 2 26 rfl (YM (aI c0) rfl)) ?_ (aD (Z3 5 29 7 31 2 26 rfl (YI sI jK (aI c0) rfl rfl)) (Z2 8 32 2 26 rfl (YF Bo (aI c0) rfl)) (X2 9 33 2 26 rfl fun hG=>YR aT (aI c0) rfl (aG hG (hpk (by omega)).1)) (Z3 4 28 10 34 2 26 rfl (YC (aI c0) rfl)) (bM (Z2 2 26 11 35 rfl (Pt (aI c0) rfl)) (bM (bS rfl) cO))))) ?_
    ·refine dL 6 30 2 26 rfl rfl fun _ a w G1 hG HT H fin=>?_;refine og _ H (wg H rfl rfl (aI c0)) rfl rfl rfl (by omega) (by omega) rfl ?_;clear H;intro a H;exact fin H iJ (by show _=_;first|rfl|exact aB vi (by omega))
    clear H;intro a w G Bv H hv;have H:=H.aN (hv 12 36 rfl rfl) rfl;clear hv;refine t1 3 H ?_;clear H
    have e7:ji l k x=7:=by rw [ji,nA,ah (by omega),ak (by rw [(hpk (by omega)).2,c1])]
    refine bP 3 ?_
    first
     | exact (aB vi e0.symm)
     | exact (aB vi e4.symm)
     | exact (aB vi e7.symm)
     | exact (aB vi e13.symm)
     | exact (aB vi e3.symm)
     | exact (aB vi e6.symm)
     | exact (aB vi (by rw [ji,nA,ak (by omega)]))
   refine dI hmx [[],[0],[0,1],[0,1,2],(ra 0 4),[0,1,2],[0,1,2],[0,1,2,6],[0,1,2,5,6,7],[0,1,2,5,6,7,8],[0,1,2,5,6,7,8,9],(ra 0 11),(ra 0 12),(ra 0 13)] [13] (by kernel_rfl) [_,_,_,_,vi x.id,_,_,vi ((k - 1:Nat):Int),_,_,_,_,_] H (aD (Z0 rfl (Rm rfl)) (Z1 0 24 rfl (Rc rfl)) (Z1 1 25 rfl (Rm rfl)) (Z1 2 26 rfl (YF Bo (aI c0) rfl)) (aD (Z2 3 27 2 26 rfl (YO aT 0 (aI c0) rfl)) (Z1 2 26 rfl (YM (aI c0) rfl)) (Z1 2 26 rfl (YM (aI c0) rfl)) ?_ (aD (Z3 5 29 7 31 2 26 rfl (YI sI jK (aI c0) rfl rfl)) (Z2 8 32 2 26 rfl (YF Bo (aI c0) rfl)) (X2 9 33 2 26 rfl fun hG=>YR aT (aI c0) rfl (aG hG (hpk (by omega)).1)) (Z3 4 28 10 34 2 26 rfl (YC (aI c0) rfl)) (bM (Z2 2 26 11 35 rfl (Pt (aI c0) rfl)) (bM (bS rfl) cO))))) ?_
   ·refine dL 6 30 2 26 rfl rfl fun _ a w G1 hG HT H fin=>?_;refine og _ H (wg H rfl rfl (aI c0)) rfl rfl rfl (by omega) (by omega) rfl ?_;clear H;intro a H;exact fin H iJ (by show _=_;first|rfl|exact aB vi (by omega))
   clear H;intro a w G Bv H hv;have H:=H.aN (hv 12 36 rfl rfl) rfl;clear hv;refine t1 4 H ?_;clear H
   have q1:¬ (0 < (k:Int)∧x.id=pk):=by first|exact fun h=>c1 h.2|exact fun h=>c0 h.1
   have q1':¬ yZ l k=some x.id:=fun h=>q1 (by
    by_cases h0:0 < k
    ·rw [(hpk h0).2] at h
     injection h with h
     exact ⟨by omega,h.symm⟩
    rw [P9 (by omega)] at h
    cases h)
   intro a H;by_cases c3:x.id < pk
   ·refine dI hmx [[],[0],[0,1],[0,1,2],(ra 0 4),[0,1,2],[0,1,2],[0,1,2,6],[0,1,2,5,6,7],[0,1,2,5,6,7,8],[0,1,2,5,6,7,8,9],(ra 0 11),(ra 0 12),(ra 0 13)] [13] (by kernel_rfl) [_,_,_,_,vi x.id,_,_,vi ((k - 1:Nat):Int),_,_,_,_,_] H (aD (Z0 rfl (Rm rfl)) (Z1 0 38 rfl (Rc rfl)) (Z1 1 39 rfl (Rm rfl)) (Z1 2 40 rfl (YF Bo (aI c0) rfl)) (aD (Z2 3 41 2 40 rfl (YO aT 0 (aI c0) rfl)) (Z1 2 40 rfl (YM (aI c0) rfl)) (Z1 2 40 rfl (YM (aI c0) rfl)) ?_ (aD (Z3 5 43 7 45 2 40 rfl (YI sI jK (aI c0) rfl rfl)) (Z2 8 46 2 40 rfl (YF Bo (aI c0) rfl)) (X2 9 47 2 40 rfl fun hG=>YR aT (aI c0) rfl (aG hG (aG Bv (hpk (by omega)).1))) (Z3 4 42 10 48 2 40 rfl (YC (aI c0) rfl)) (bM (Z2 2 40 11 49 rfl (Pt (aI c0) rfl)) (bM (bS rfl) cO))))) ?_
    ·refine dL 6 44 2 40 rfl rfl fun _ a w G1 hG HT H fin=>?_;refine og _ H (wg H rfl rfl (aI c0)) rfl rfl rfl (by omega) (by omega) rfl ?_;clear H;intro a H;exact fin H iJ (by show _=_;first|rfl|exact aB vi (by omega))
    clear H;intro a w G gM H hv;have H:=H.aN (hv 12 50 rfl rfl) rfl;clear hv;refine t1 3 H ?_;clear H
    have e6:ji l k x=6:=by rw [ji,nA,ah (by omega),ah q1',ak (by rw [(hpk (by omega)).2];exact aI c3)]
    refine bP 3 ?_
    first
     | exact (aB vi e0.symm)
     | exact (aB vi e4.symm)
     | exact (aB vi e7.symm)
     | exact (aB vi e13.symm)
     | exact (aB vi e3.symm)
     | exact (aB vi e6.symm)
     | exact (aB vi (by rw [ji,nA,ak (by omega)]))
   refine dI hmx [[],[0],[0,1],[0,1,2],(ra 0 4),[0,1,2],[0,1,2],[0,1,2,6],[0,1,2,5,6,7],[0,1,2,5,6,7,8],[0,1,2,5,6,7,8,9],(ra 0 11),(ra 0 12),(ra 0 13)] [13] (by kernel_rfl) [_,_,_,_,vi x.id,_,_,vi ((k - 1:Nat):Int),_,_,_,_,_] H (aD (Z0 rfl (Rm rfl)) (Z1 0 38 rfl (Rc rfl)) (Z1 1 39 rfl (Rm rfl)) (Z1 2 40 rfl (YF Bo (aI c0) rfl)) (aD (Z2 3 41 2 40 rfl (YO aT 0 (aI c0) rfl)) (Z1 2 40 rfl (YM (aI c0) rfl)) (Z1 2 40 rfl (YM (aI c0) rfl)) ?_ (aD (Z3 5 43 7 45 2 40 rfl (YI sI jK (aI c0) rfl rfl)) (Z2 8 46 2 40 rfl (YF Bo (aI c0) rfl)) (X2 9 47 2 40 rfl fun hG=>YR aT (aI c0) rfl (aG hG (aG Bv (hpk (by omega)).1))) (Z3 4 42 10 48 2 40 rfl (YC (aI c0) rfl)) (bM (Z2 2 40 11 49 rfl (Pt (aI c0) rfl)) (bM (bS rfl) cO))))) ?_
   ·refine dL 6 44 2 40 rfl rfl fun _ a w G1 hG HT H fin=>?_;refine og _ H (wg H rfl rfl (aI c0)) rfl rfl rfl (by omega) (by omega) rfl ?_;clear H;intro a H;exact fin H iJ (by show _=_;first|rfl|exact aB vi (by omega))
   clear H;intro a w G gM H hv;have H:=H.aN (hv 12 50 rfl rfl) rfl;clear hv;refine t1 3 H ?_;clear H;intro a H;refine gsx ?_
   have q2:¬ (0 < (k:Int)∧x.id < pk):=by first|exact fun h=>c3 h.2|exact fun h=>c0 h.1
   have q2':¬ EK (yZ l k) x.id=true:=fun h=>q2 (by
    by_cases h0:0 < k
    ·rw [(hpk h0).2] at h;exact ⟨by omega,nS h⟩
    rw [P9 (by omega)] at h
    cases h)
   refine CF 5 55 H ?_ ?_ <;> clear H
   ·intro p55
    refine goB 6 ?_ ?_
    ·intro p51
     have e3:ji l k x=3:=by rw [ji,nA,ah (by omega),ah q1',ah q2',ak (by omega)]
     refine bP 3 ?_
     first
      | exact (aB vi e0.symm)
      | exact (aB vi e4.symm)
      | exact (aB vi e7.symm)
      | exact (aB vi e13.symm)
      | exact (aB vi e3.symm)
      | exact (aB vi e6.symm)
      | exact (aB vi (by rw [ji,nA,ak (by omega)]))
    intro p51
    refine av 3 ?_;intro a H;refine s_call Oe H wn rfl (Pz _ _ H.ro x.name hs) rfl ?_;clear H;rintro v63 Fg a w rfl hm63 H;refine lW 3 H ?_ ?_ <;> clear H
    ·intro pG
     try have p60:=dT pG
     have e13:ji l k x=13:=by rw [ji,nA,ah (by omega),ah q1',ah q2',ah (by omega),ak (by simpa using pG)]
     refine bP 3 ?_
     first
      | exact (aB vi e0.symm)
      | exact (aB vi e4.symm)
      | exact (aB vi e7.symm)
      | exact (aB vi e13.symm)
      | exact (aB vi e3.symm)
      | exact (aB vi e6.symm)
      | exact (aB vi (by rw [ji,nA,ak (by omega)]))
    intro pG
    try have p60:=dF pG
    intro a H;refine iw ?_;refine ⟨Fg,sB,?_⟩;exact ⟨by omega,q1',q2',by omega,by simpa using pG,fun b o h=>hm63 b o (gM b o (Bv b o h))⟩
   intro p55
   refine av 10 ?_;intro a H;refine s_call Oe H wn rfl (Pz _ _ H.ro x.name hs) rfl ?_;clear H;rintro v63 Fg a w rfl hm63 H;refine lW 3 H ?_ ?_ <;> clear H
   ·intro pG
    try have p60:=dT pG
    have e13:ji l k x=13:=by rw [ji,nA,ah (by omega),ah q1',ah q2',ah (by omega),ak (by simpa using pG)]
    refine bP 3 ?_
    first
     | exact (aB vi e0.symm)
     | exact (aB vi e4.symm)
     | exact (aB vi e7.symm)
     | exact (aB vi e13.symm)
     | exact (aB vi e3.symm)
     | exact (aB vi e6.symm)
     | exact (aB vi (by rw [ji,nA,ak (by omega)]))
   intro pG
   try have p60:=dF pG
   intro a H;refine iw ?_;refine ⟨Fg,sB,?_⟩;exact ⟨by omega,q1',q2',by omega,by simpa using pG,fun b o h=>hm63 b o (gM b o (Bv b o h))⟩
  refine dI hmx [[],[0],[0,1],[0,1,2],(ra 0 4),[0,1,2],[0,1,2],[0,1,2,6],[0,1,2,5,6,7],[0,1,2,5,6,7,8],[0,1,2,5,6,7,8,9],(ra 0 11),(ra 0 12),(ra 0 13)] [13] (by kernel_rfl) [_,_,_,undef,undef,undef,undef,undef,undef,undef,undef,undef,_] H (aD (Z0 rfl (Rm rfl)) (Z1 0 24 rfl (Rc rfl)) (Z1 1 25 rfl (Rm rfl)) (aW 2 (aX c0) rfl rfl) (aD (aW 2 (aX c0) rfl rfl) (aW 2 (aX c0) rfl rfl) (aW 2 (aX c0) rfl rfl) (aW 2 (aX c0) rfl rfl) (aD (aW 2 (aX c0) rfl rfl) (aW 2 (aX c0) rfl rfl) (aW 2 (aX c0) rfl rfl) (aW 2 (aX c0) rfl rfl) (bM (Z2 2 26 11 35 rfl (Pf (aX c0) rfl)) (bM (bS rfl) cO))))) ?_
  clear H;intro a w G Bv H hv;have H:=H.aN (hv 12 36 rfl rfl) rfl;clear hv;refine t1 4 H ?_;clear H
  have q1:¬ (0 < (k:Int)∧x.id=pk):=by first|exact fun h=>c1 h.2|exact fun h=>c0 h.1
  have q1':¬ yZ l k=some x.id:=fun h=>q1 (by
   by_cases h0:0 < k
   ·rw [(hpk h0).2] at h
    injection h with h
    exact ⟨by omega,h.symm⟩
   rw [P9 (by omega)] at h
   cases h)
  intro a H;refine dI hmx [[],[0],[0,1],[0,1,2],(ra 0 4),[0,1,2],[0,1,2],[0,1,2,6],[0,1,2,5,6,7],[0,1,2,5,6,7,8],[0,1,2,5,6,7,8,9],(ra 0 11),(ra 0 12),(ra 0 13)] [13] (by kernel_rfl) [_,_,_,undef,undef,undef,undef,undef,undef,undef,undef,undef,_] H (aD (Z0 rfl (Rm rfl)) (Z1 0 38 rfl (Rc rfl)) (Z1 1 39 rfl (Rm rfl)) (aW 2 (aX c0) rfl rfl) (aD (aW 2 (aX c0) rfl rfl) (aW 2 (aX c0) rfl rfl) (aW 2 (aX c0) rfl rfl) (aW 2 (aX c0) rfl rfl) (aD (aW 2 (aX c0) rfl rfl) (aW 2 (aX c0) rfl rfl) (aW 2 (aX c0) rfl rfl) (aW 2 (aX c0) rfl rfl) (bM (Z2 2 40 11 49 rfl (Pf (aX c0) rfl)) (bM (bS rfl) cO))))) ?_
  clear H;intro a w G gM H hv;have H:=H.aN (hv 12 50 rfl rfl) rfl;clear hv;refine t1 3 H ?_;clear H;intro a H;refine gsx ?_
  have q2:¬ (0 < (k:Int)∧x.id < pk):=by first|exact fun h=>c3 h.2|exact fun h=>c0 h.1
  have q2':¬ EK (yZ l k) x.id=true:=fun h=>q2 (by
   by_cases h0:0 < k
   ·rw [(hpk h0).2] at h;exact ⟨by omega,nS h⟩
   rw [P9 (by omega)] at h
   cases h)
  refine CF 5 55 H ?_ ?_ <;> clear H
  ·intro p55
   refine goB 6 ?_ ?_
   ·intro p51
    have e3:ji l k x=3:=by rw [ji,nA,ah (by omega),ah q1',ah q2',ak (by omega)]
    refine bP 3 ?_
    first
     | exact (aB vi e0.symm)
     | exact (aB vi e4.symm)
     | exact (aB vi e7.symm)
     | exact (aB vi e13.symm)
     | exact (aB vi e3.symm)
     | exact (aB vi e6.symm)
     | exact (aB vi (by rw [ji,nA,ak (by omega)]))
   intro p51
   refine av 3 ?_;intro a H;refine s_call Oe H wn rfl (Pz _ _ H.ro x.name hs) rfl ?_;clear H;rintro v63 Fg a w rfl hm63 H;refine lW 3 H ?_ ?_ <;> clear H
   ·intro pG
    try have p60:=dT pG
    have e13:ji l k x=13:=by rw [ji,nA,ah (by omega),ah q1',ah q2',ah (by omega),ak (by simpa using pG)]
    refine bP 3 ?_
    first
     | exact (aB vi e0.symm)
     | exact (aB vi e4.symm)
     | exact (aB vi e7.symm)
     | exact (aB vi e13.symm)
     | exact (aB vi e3.symm)
     | exact (aB vi e6.symm)
     | exact (aB vi (by rw [ji,nA,ak (by omega)]))
   intro pG
   try have p60:=dF pG
   intro a H;refine iw ?_;refine ⟨Fg,sB,?_⟩;exact ⟨by omega,q1',q2',by omega,by simpa using pG,fun b o h=>hm63 b o (gM b o (Bv b o h))⟩
  intro p55
  refine av 10 ?_;intro a H;refine s_call Oe H wn rfl (Pz _ _ H.ro x.name hs) rfl ?_;clear H;rintro v63 Fg a w rfl hm63 H;refine lW 3 H ?_ ?_ <;> clear H
  ·intro pG
   try have p60:=dT pG
   have e13:ji l k x=13:=by rw [ji,nA,ah (by omega),ah q1',ah q2',ah (by omega),ak (by simpa using pG)]
   refine bP 3 ?_
   first
    | exact (aB vi e0.symm)
    | exact (aB vi e4.symm)
    | exact (aB vi e7.symm)
    | exact (aB vi e13.symm)
    | exact (aB vi e3.symm)
    | exact (aB vi e6.symm)
    | exact (aB vi (by rw [ji,nA,ak (by omega)]))
  intro pG
  try have p60:=dF pG
  intro a H;refine iw ?_;refine ⟨Fg,sB,?_⟩;exact ⟨by omega,q1',q2',by omega,by simpa using pG,fun b o h=>hm63 b o (gM b o (Bv b o h))⟩
 clear H;intro g a w hI H;obtain ⟨q0,q1',q2',q3,q4,hgm⟩:=hI;dsimp only [lca,bK] at H;refine KP ?_;refine KP ?_;have abG:=(hv.mono hgm).pre k (by rw [bO];omega);rw [← List.map_take] at abG;have anJ:=hp.mono hgm;refine dI hmx [[],[],[0,1],[],[3],[],[5],(ra 0 7),(ra 0 8),(ra 0 9),(ra 0 9),(ra 0 10),(ra 0 12)] [12] (by kernel_rfl) [_,_,.slice (some ⟨b,o,none⟩) k c,_,vi x.kind,_,.string x.name,.tuple #[vi (max (oC (El (l.take k) x.kind x.name)) 0),.bool (El (l.take k) x.kind x.name).isSome],_,vi (max (oC (El (l.take k) x.kind x.name)) 0),.bool (El (l.take k) x.kind x.name).isSome,_] H (aD (Z0 rfl (Rm rfl)) (Z0 rfl (Rm rfl)) ?_ (Z0 rfl (Rf Ti rfl)) (aD (Z1 3 69 rfl (Ro aT 0 rfl)) (Z0 rfl (Rf akX rfl)) (Z1 5 71 rfl (Ro kR 0 rfl)) ?_ (aD (Z1 7 73 rfl (Rm rfl)) ?_ ?_ (Z1 9 74 rfl (Ra rfl)) (bM (bS rfl) cO)))) ?_
 ·refine dL 0 66 1 67 rfl rfl fun _ a w G1 hG HT H fin=>?_;refine ET sI jK k H wn rfl rfl rfl (by omega) rfl ?_;clear H;intro a H;exact fin H iJ rfl
 ·refine yL 2 68 4 70 6 72 rfl rfl fun _ a w G1 hG HT H fin=>?_;refine s_call ajd H wn rfl (alf _ _ H.ro (l.take k) x.kind x.name _ (abG.mono hG)) rfl ?_;clear H;rintro v73 G73 a w rfl alQ H;exact fin H alQ (rfl)
 ·refine eu 8 65 rfl rfl fun _ a w G1 hG HT H fin=>?_;refine lQ H wn rfl rfl rfl ?_;clear H;intro a H;exact fin H iJ rfl
 ·refine eu 8 65 rfl rfl fun _ a w G1 hG HT H fin=>?_;refine lQ H wn rfl rfl rfl ?_;clear H;intro a H;exact fin H iJ rfl
 clear H;intro a w G nW H hv;have H:=H.aN (hv 10 75 rfl rfl) rfl;clear hv;refine t1 5 H ?_;clear H;refine goC 0 ?_ ?_
 ·intro KS
  try have Mt:=dT KS
  have e7:ji l k x=7:=by rw [ji,nA,ah (by omega),ah q1',ah q2',ah q3,ah q4,ak KS]
  refine bP 3 ?_
  first
   | exact (aB vi e0.symm)
   | exact (aB vi e4.symm)
   | exact (aB vi e7.symm)
   | exact (aB vi e13.symm)
   | exact (aB vi e3.symm)
   | exact (aB vi e6.symm)
   | exact (aB vi (by rw [ji,nA,ak (by omega)]))
 intro KS
 try have Mt:=dF KS
 refine av 2 ?_
 have q5:¬ (El (l.take k) x.kind x.name).isSome=true:=by simpa using KS
 have Ae:=anJ.mono nW;refine av 7 ?_;intro a H;refine eH (ι:=Nat) (Tc:=[(5,_),(78,_),(79,_)]) (Lc:=[(_,_)]) (fun gh=>[(80,vi gh)]) (fun gh=>[]) (fun gh=>G) (fun gh=>gh≤x.props.length∧(x.props.take gh).any (fun p=>Ii p.key)=false) (fun gh=>x.props.length - gh) (0) sB ?_ ?_
 ·exact ⟨iH _,rfl⟩
 clear H;intro n a w hI H;obtain ⟨hn,hno⟩:=hI;dsimp only [lca,bK] at H;refine iI 4 H ?_ ?_ <;> clear H
 ·intro p81
  have hn2:n < x.props.length:=by omega
  obtain ⟨pb,po,rfl,hrow2⟩:=GX Ae hn2;have hrow:=hrow2;refine av 5 ?_;intro a H;refine aR gL (cs:=[_,_]) H wn rfl rfl (fun j v hj=>H.hp.aH (hrow j v hj)) rfl ?_;clear H;intro a H;refine dJ gL H wn rfl ?_;clear H;intro b9 a w uT H;refine aY gL 0 (vs:=[_,_]) _ H wn rfl rfl rfl rfl rfl rfl rfl rfl ?_;clear H;intro w H;dsimp only [List.set,setRow] at H;refine sS 6 87 H ?_ ?_ <;> clear H
  ·intro Wd
   refine av 6 ?_
   have e4:ji l k x=4:=by
    rw [ji,nA,ah (by omega),ah q1',ah q2',ah q3,ah q4,ah q5,ak];rw [List.any_eq_true];exact ⟨x.props[n],lH hn2,by simp [Ii];omega⟩
   refine bP 3 ?_
   first
    | exact (aB vi e0.symm)
    | exact (aB vi e4.symm)
    | exact (aB vi e7.symm)
    | exact (aB vi e13.symm)
    | exact (aB vi e3.symm)
    | exact (aB vi e6.symm)
    | exact (aB vi (by rw [ji,nA,ak (by omega)]))
  intro Wd
  refine goB 5 ?_ ?_
  ·intro p91
   have e4:ji l k x=4:=by
    rw [ji,nA,ah (by omega),ah q1',ah q2',ah q3,ah q4,ah q5,ak];rw [List.any_eq_true];exact ⟨x.props[n],lH hn2,by simp [Ii];omega⟩
   refine bP 3 ?_
   first
    | exact (aB vi e0.symm)
    | exact (aB vi e4.symm)
    | exact (aB vi e7.symm)
    | exact (aB vi e13.symm)
    | exact (aB vi e3.symm)
    | exact (aB vi e6.symm)
    | exact (aB vi (by rw [ji,nA,ak (by omega)]))
  intro p91
  refine av 4 ?_;intro a H;refine aC ?_;refine dx ((n+1)) (by exact (H.dX (Pl:=[_,_]) (dN:=[_]) [1] (by decide) rfl).sub ⟨rfl,rfl,rfl,rfl,aL⟩) ?_
  exact ⟨by omega,by rw [fV hn2,List.any_append,hno];simp [Ii];omega⟩
 intro p81
 refine av 2 ?_
 have q6:¬ x.props.any (fun p=>Ii p.key)=true:=by
  rw [show x.props.take n=x.props from gu (by omega)] at hno;rw [hno];decide
 have e0:ji l k x=ig (if x.kind=1 then 2 else 1) x.props:=by rw [ji,nA,ah (by omega),ah q1',ah q2',ah q3,ah q4,ah q5,ah q6]
 intro a H;refine dI hmx [[],[0],[0,1],[],[3],(ra 0 5),(ra 0 6)] [5,6] (by kernel_rfl) [_,vi x.kind,vi (if x.kind=1 then 2 else 1),_,.slice pA x.props.length pc] H (aD (Z0 rfl (Rf Ti rfl)) (Z1 0 93 rfl (Ro aT 0 rfl)) ?_ (Z0 rfl (Rf Tj rfl)) (bM (Z1 3 96 rfl (Ro Ar 0 rfl)) (bM (bS rfl) (bM (bS rfl) cO)))) ?_
 ·refine eu 1 94 rfl rfl fun _ a w G1 hG HT H fin=>?_;refine s_call aje H wn rfl (ahE _ _ H.ro x.kind) rfl ?_;clear H;rintro v95 G95 a w rfl alR H;exact fin H alR (rfl)
 clear H;intro a w G Ep H hv;have H:=H.aN (hv 2 95 rfl rfl) rfl;have H:=H.aN (hv 4 97 rfl rfl) rfl;clear hv;refine s_call Zd H wn rfl (ade _ _ H.ro _ x.props _ (Ae.mono Ep)) rfl ?_;clear H;rintro v98 G98 a w rfl avr H;refine kH H (Ra rfl ?_);clear H;intro a H;refine aC ⟨rfl,?_⟩;refine oH ?_;refine gcF 0 H ?_
 first
  | exact (aB vi e0.symm)
  | exact (aB vi e4.symm)
  | exact (aB vi e7.symm)
  | exact (aB vi e13.symm)
  | exact (aB vi e3.symm)
  | exact (aB vi e6.symm)
  | exact (aB vi (by rw [ji,nA,ak (by omega)]))
instance Dz:Ty prog 33 1 24 [.slice none 0 0] false:=⟨by kernel_rfl,by kernel_rfl⟩
theorem xD:prog.underlying 33=some (.slice 107):=by kernel_rfl
instance:lD prog 33 (.slice 107):=⟨xD⟩
instance wD:Ty prog 107 6 64 [.int .i64 0,.int .i64 0,.string ⟨#[]⟩,.int .i64 0,.string ⟨#[]⟩,.bool false] true:=⟨by kernel_rfl,by kernel_rfl⟩
instance ZM:dR prog 107 0 0:=⟨by kernel_rfl⟩
instance ZN:dR prog 107 1 1:=⟨by kernel_rfl⟩
theorem ajh:∀ args w,(callFunc 224 args).run prog w=.ok (.enter 224 args) w:=enters func224 rfl (by kernel_rfl)
theorem aiP:∀ args w,(callFunc 187 args).run prog w=.ok (.enter 187 args) w:=enters func187 rfl (by kernel_rfl)
instance akR:dR prog 107 2 2:=⟨by kernel_rfl⟩
theorem Zc:∀ args w,(callFunc 127 args).run prog w=.ok (.enter 127 args) w:=enters func127 rfl (by kernel_rfl)
instance akS:dR prog 107 3 3:=⟨by kernel_rfl⟩
instance akT:dR prog 107 4 4:=⟨by kernel_rfl⟩
theorem SA:∀ args w,(callFunc 190 args).run prog w=.ok (.enter 190 args) w:=enters func190 rfl (by kernel_rfl)
theorem aiR:∀ args w,(callFunc 189 args).run prog w=.ok (.enter 189 args) w:=enters func189 rfl (by kernel_rfl)
theorem aiQ:∀ args w,(callFunc 188 args).run prog w=.ok (.enter 188 args) w:=enters func188 rfl (by kernel_rfl)
theorem aiO:∀ args w,(callFunc 186 args).run prog w=.ok (.enter 186 args) w:=enters func186 rfl (by kernel_rfl)
theorem Gy {G:GH} {b:Nat} (l:List Int) (h:G b=some (.cells (l.map vi).toArray 49 (0,0))) (hl:l.length≤maxLen):au G (.sl 1 (l.map fun k=>[li k])) (.slice (some ⟨b,0,none⟩) l.length l.length) :=
 au.fu h (by simp) (bR _) hl (gu (by simp)) (fH G l)
theorem R7 {G:GH} {l:List fM} {A:Option Addr} {n c k:Nat} (hv:au G (.sl 6 (l.map fM.dat)) (.slice A n c)) (hk:k < l.length):∃ b o,A=some ⟨b,o,none⟩∧(∀ j u,l[k].cells[j]?=some u→aH G b (o+k*6+j)=some u)∧aV G l[k].dat l[k].cells:=by
 obtain ⟨A',c',he,_,_,hg⟩:=hv.slice
 injection he with e1 e2 e3
 subst e1;obtain ⟨b,o,cs,h1,h2,h3,h4⟩:=hg k l[k].dat (by simp [hk]);have:=NU h4;subst this;exact ⟨b,o,h1,h3,h4⟩
theorem ahi {G:GH} {bl:Nat} {l:List fM} {A:Option Addr} {n c:Nat} (hb:aH G bl 0=some (.slice A n c)) (hv:au G (.sl 6 (l.map fM.dat)) (.slice A n c)):uH (.func (.func 189) #[] #[(aM bl 0)]) G l.length fun k=>(l[k]?.map fM.id).getD 0:=by
 intro k hk G1 w0 hm hG;refine jo (caps:=[(aM bl 0)]) aiR ?_;replace hb:=aG hm hb
 obtain rfl:n=l.length:=by have:=hv.len;simpa using this
 obtain ⟨b,o,rfl,hrow,-⟩:=R7 (hv.mono hm) hk;have hq:=hrow 0 _ rfl;refine eN [(0,_),(1,_)] func189 rfl ntmps189 rfl rfl hG ?_;intro a H;refine kP H (SR fun _ K1=>aF K1 rfl (SR fun _ K2=>Rg Dz rfl (by assumption) ?_));clear H K1;intro a H;refine kH H (Rm rfl (Ri xD wD rfl rfl (Rf ZM rfl (Rg aT rfl (by assumption) ?_))));clear H;intro a H;exact kH H (aF K2 rfl (LR results189 rfl fun H=>H.rt (by dsimp only;rw [dZ hk];rfl)))
theorem ahj {G:GH} {bc:Nat} {x:fM} (hb:aH G bc 1=some (vi x.parent)) (y:fM):tH (.func (.func 188) #[] #[(aM bc 0)]) G y.dat (decide (y.id=x.parent)):=by
 intro G1 w0 cs hm hG hr;refine jo (caps:=[(aM bc 0)]) aiQ ?_;obtain rfl:=NU hr;replace hb:=aG hm hb;refine eN [(0,_),(1,_)] func188 rfl ntmps188 rfl rfl hG ?_;intro a H;refine fK (fun _ K1=>?_);refine dW (cs:=[_,_,_,_,_,_]) H wn rfl rfl rfl ?_;clear H;intro b2 a w hb2 H;refine kH H (aF K1 rfl (SR fun _ K2=>dU ZM aT 0 rfl rfl (Rf ZN rfl (Rg aT rfl (by assumption) ?_))));clear H K1;intro a H;exact kH H (Rc rfl (aF K2 rfl (LR results188 rfl fun H=>H.rt rfl)))
theorem aoF (G:GH) (w0:World) (hG:Hold G w0) (l:List fM) (p:fM→Bool) (v fv:aj) (hv:au G (.sl 6 (l.map fM.dat)) v) (hf:∀ x∈l,tH fv G x.dat (p x)) :
  Calls prog 224 #[v,fv] w0 (bB w0 G fun u G'=>u=vi (oC (l.findIdx? p))):=by
 obtain ⟨A,c,rfl,hc1,hc2,hg⟩:=hv.slice;have hml:maxLen=9223372036854775807:=rfl;rw [bO] at *;refine eN [(0,_),(1,_)] func224 rfl ntmps224 rfl rfl hG ?_;intro a H;refine kP H (SR fun _ K1=>aF K1 rfl (SQ fun _ K2=>SR fun _ K3=>Rm rfl (Rl xD rfl (Rm rfl (Kz K3 (SB ?_))))));clear H K1 K3;intro a H;skip;refine eH (ι:=Nat × GH) (Tc:=[(0,_),(1,_),(7,_)]) (Lc:=[]) (fun gh=>[(8,vi gh.1)]) (fun gh=>[]) (fun gh=>gh.2) (fun gh=>gh.1≤l.length∧(l.take gh.1).findIdx? p=none∧(∀ b o,G b=some o→gh.2 b=some o)) (fun gh=>l.length - gh.1) ((0,G)) (by exact (H).sub ⟨rfl,rfl,rfl,rfl,aL⟩) ?_ ?_
 ·exact ⟨by omega,rfl,fun _ _ h=>h⟩
 clear H;rintro ⟨k,g⟩ a w hI H;dsimp only at hI H;obtain ⟨hk,hno,hgm⟩:=hI;dsimp only [lca,bK] at H;refine kP H (SR fun _ K4=>Rc rfl (Kz K4 (SQ fun _ K5=>Cd rfl ?_ ?_))) <;> clear H K4
 ·intro h9 a H
  try have p9:=dT h9
  have hk2:k < l.length:=by omega
  obtain ⟨b,o,rfl,hrow,hrep⟩:=R7 hv hk2;refine kP H (Kc K5 (SQ fun _ K6=>SB (SR fun _ K7=>Rm rfl (aF K7 rfl (SR fun _ K8=>Rm rfl (Rm rfl (Rm rfl (Ri xD wD rfl rfl ?_))))))));clear H K5 K7;intro a H;refine aR wD (cs:=l[k].cells) H wn rfl rfl (fun j v hj=>H.hp.aH (aG hgm (hrow j v hj))) rfl ?_;clear H;intro a H;refine jF H wn rfl rfl (hf _ (lH hk2) _ _ _ hgm H.ro (hrep.mono hgm)) rfl ?_;clear H;rintro v16 qC a w rfl jW H;refine K8 _ _ ?_;clear K8;refine mW H rfl ?_ ?_
  ·intro h16
   try have p16:=dT h16
   refine kP H (SR fun _ K9=>Rm rfl (aF K9 rfl ?_));clear H K9;intro a H;refine lr H results224 rfl ?_
   first
    | exact H.rt (by rw [wm hk2 hno h16];rfl)
    | exact H.rt (by rw [show l.take k=l from gu (by omega)] at hno;rw [hno];rfl)
  intro h16
  try have p16:=dF h16
  refine kP H (Kc K6 (SC (Rd rfl (Rm rfl ?_))));clear H K6;intro a H;refine aC ?_;refine dx ((k+1,qC)) (by exact (H).sub ⟨rfl,rfl,rfl,rfl,aL⟩) ?_
  (try dsimp only);exact ⟨by omega,EG hk2 hno h16,fun b o h=>jW b o (hgm b o h)⟩
 intro h9 a H
 try have p9:=dF h9
 refine jI ?_;refine K2 _ _ ?_;clear K2;refine kP H (SR fun _ eU=>aF eU rfl ?_);clear H eU;intro a H;refine lr H results224 rfl ?_
 first
  | exact H.rt (by rw [wm hk2 hno h16];rfl)
  | exact H.rt (by rw [show l.take k=l from gu (by omega)] at hno;rw [hno];rfl)
theorem ahl (G:GH) (w0:World) (hG:Hold G w0) (l:List fM) (p:fM→Bool) (v fv:aj) (hv:au G (.sl 6 (l.map fM.dat)) v) (hf:∀ x∈l,tH fv G x.dat (p x)) :
  Calls prog 187 #[v,fv] w0 (bB w0 G fun u G'=>u=.bool (l.findIdx? p).isSome):=by
 obtain ⟨A,c,rfl,hc1,hc2,-⟩:=hv.slice;rw [bO] at *;refine eN [(0,_),(1,_)] func187 rfl ntmps187 rfl rfl hG ?_;intro a H;refine kP H (SR fun _ K1=>aF K1 rfl (SR fun _ K2=>Rm rfl (Rm rfl ?_)));clear H K1;intro a H;refine s_call ajh H wn rfl (aoF _ _ H.ro l p _ _ hv hf) rfl ?_;clear H;rintro v7 G7 a w rfl BH H;exact kH H (Rc rfl (aF K2 rfl (LR results187 rfl fun H=>H.rt (dG (Vw _)))))
def Ij (l:List fM) (i:Nat) (x:fM):Bool:=decide (x.parent=0) || ((l.take i).findIdx? fun y=>decide (y.id=x.parent)).isSome
def R6 (l:List fM) (i:Nat) (x:fM):Int:=dY [qm (fun k=>(l[k]?.map fM.id).getD 0) i,dh (!Ij l i x) 8,dh (!wM x.author) 39,dh (!decide (0≤x.time∧x.time≤1099511627776)) 40,Dx x.text]
def Io (l:List fM) (i:Nat):Int:=match l[i]? with|some x=>R6 l i x|none=>0
theorem ahh {G:GH} {bl:Nat} {l:List fM} {A:Option Addr} {n c:Nat} (hb:aH G bl 0=some (.slice A n c)) (hv:au G (.sl 6 (l.map fM.dat)) (.slice A n c)) (hl:l.length≤4294967296) (ht:∀ x∈l,x.author.size < 4611686018427387904∧x.text.size < 4611686018427387904):uH (.func (.func 186) #[] #[(aM bl 0)]) G l.length (Io l):=by
 intro k hk G1 w0 hm hG;refine jo (caps:=[(aM bl 0)]) aiO ?_;replace hb:=aG hm hb;replace hv:=hv.mono hm;have hcb:=ahi hb hv;obtain ⟨_,_,hee,hvc,-,-⟩:=hv.slice
 injection hee with _ _ hcc
 subst hcc;rw [bO] at hvc
 obtain rfl:n=l.length:=by have:=hv.len;simpa using this
 obtain ⟨b,o,rfl,hrow,hrep⟩:=R7 hv hk;have hte:=ht _ (lH hk);obtain ⟨x,hx⟩:∃ x,x=l[k]:=⟨_,rfl⟩;rw [← hx] at hrow hte
 have he:Io l k=R6 l k x:=by unfold Io;rw [dZ hk,hx]
 refine eN [(0,_),(1,_)] func186 rfl ntmps186 rfl rfl hG ?_;intro a H;refine kP H (SR fun _ K1=>aF K1 rfl (SR fun _ K2=>Rg Dz rfl (by assumption) ?_));clear H K1;intro a H;refine kH H (Rm rfl (Ri xD wD rfl rfl ?_));clear H;intro a H;refine aR wD (cs:=x.cells) H wn rfl rfl (fun j v hj=>H.hp.aH (hrow j v hj)) rfl ?_;clear H;intro a H;refine dJ wD H wn rfl ?_;clear H;intro b4 a w hb4 H;refine aY wD 0 (vs:=[_,_,_,_,_,_]) _ H wn rfl rfl rfl rfl rfl rfl rfl rfl ?_;clear H;intro w H;dsimp only [List.set,setRow] at H;obtain ⟨Ga,hma,xR,H⟩:=H.eB
 have hcell:∀ (j:Nat) (u:aj),x.cells[j]?=some u→aH Ga b4 j=some u:=fun j u hj=>by unfold aH;rw [xR];simpa using hj
 have q1:=hcell 1 _ rfl;have hbA:=aG hma hb;have Pq:=(hv.mono hma).pre k (by rw [bO];omega);rw [← List.map_take] at Pq;refine K2 _ _ ?_;clear K2;refine rR (ι:=Bool × GH) (Tc:=[(0,_),(1,_),(4,_)]) (Lc:=[]) (fun gh=>[(5,.bool gh.1)]) (fun gh=>[]) (fun gh=>gh.2) (fun gh=>gh.1=Ij l k x∧(∀ b o,Ga b=some o→gh.2 b=some o)) (by exact (H).sub ⟨rfl,rfl,rfl,aL⟩) ?_ ?_
 ·skip;refine kP H (SC (Rf ZN rfl (Rg aT rfl (by assumption) ?_)));clear H;intro a H;refine kH H (Rc rfl (Rm rfl (Sp 13 rfl ?_ ?_))) <;> clear H
  ·intro jD a H
   try have qp:=dT jD
   refine kH H (fB jD rfl (fU jD rfl (Pt jD rfl (Ra rfl ?_))));clear H;intro a H;refine aC ?_;refine ⟨(_,_),by exact (H).sub ⟨rfl,rfl,rfl,rfl,aL⟩,?_⟩;(try dsimp only)
   first
   | exact ⟨by unfold Ij;rw [iO (by assumption)];rfl,fun _ _ h=>h⟩
   | exact ⟨by unfold Ij;rw [jf (by assumption)];rfl,hm18⟩
  intro jD a H
  try have qp:=dF jD
  refine kH H (YR Dz jD rfl (by assumption) ?_);clear H;intro a H;refine kH H (YM jD rfl ?_);clear H;intro a H;refine ET xD wD k H (wg H rfl rfl jD) rfl rfl rfl (by omega) rfl ?_;clear H;intro a H;refine qy H (wg H rfl rfl jD) rfl rfl ?_;clear H;intro a H;refine s_call aiP H (wg H rfl rfl jD) rfl (ahl _ _ H.ro (l.take k) (fun y=>decide (y.id=x.parent)) _ _ Pq (fun y _=>ahj q1 y)) rfl ?_;clear H;rintro v18 Xx a w rfl hm18 H;refine kH H (Pf jD rfl (Ra rfl ?_));clear H;intro a H;refine aC ?_;refine ⟨(_,_),by exact (H).sub ⟨rfl,rfl,rfl,rfl,aL⟩,?_⟩;(try dsimp only)
  first
  | exact ⟨by unfold Ij;rw [iO (by assumption)];rfl,fun _ _ h=>h⟩
  | exact ⟨by unfold Ij;rw [jf (by assumption)];rfl,hm18⟩
 clear H;rintro ⟨bf,g⟩ a w hI H;dsimp only at hI H;obtain ⟨hbf,hgm⟩:=hI;replace hcell:=fun j u hj=>aG hgm (hcell j u hj);replace hcb:=(hcb.mono hma).mono hgm;dsimp only [lca,bK] at H;refine eY (fun _ K3=>?_);have H:=H.sub (T':=[(0,_),(1,_),(4,_),(5,_)]) ⟨rfl,rfl,rfl,rfl,aL⟩;refine dI hmx [[],[],[0,1],[],[3],(ra 0 5),[],[6],(ra 0 8),(ra 0 9),(ra 0 10),[],[11],(ra 0 13),(ra 0 14),(ra 0 15),[],[16],(ra 0 18),(ra 0 19),(ra 0 20),(ra 0 21)] [19,20,21] (by kernel_rfl) [_,.func (.func 189) #[] #[(aM bl 0)],vi (qm (fun k=>(l[k]?.map fM.id).getD 0) k),_,_,vi (dh (!bf) 8),_,_,.bool (wM x.author),_,vi (dh (!wM x.author) 39),_,_,.bool (decide (0≤x.time∧x.time≤1099511627776)),_,vi (dh (!decide (0≤x.time∧x.time≤1099511627776)) 40),_,_,vi (Dx x.text)] H (aD (Z0 rfl (Rm rfl)) ?_ ?_ (Z0 rfl (Rm rfl)) (aD (Z1 3 23 rfl (Rn rfl)) ?_ (Z0 rfl (Rf akR rfl)) (X1 6 26 rfl fun hG=>Rg kR rfl (aG hG (hcell 2 _ rfl))) (aD ?_ (Z1 8 28 rfl (Rn rfl)) ?_ (Z0 rfl (Rf akS rfl)) (aD (X1 11 31 rfl fun hG=>Rg aT rfl (aG hG (hcell 3 _ rfl))) ?_ (Z1 13 33 rfl (Rn rfl)) ?_ (aD (Z0 rfl (Rf akT rfl)) (X1 16 36 rfl fun hG=>Rg kR rfl (aG hG (hcell 4 _ rfl))) ?_ (bS rfl) (bM (bS rfl) (bM (bS rfl) cO))))))) ?_
 ·refine Co rfl fun _ a w G1 hG HT H fin=>?_;refine qy H wn rfl rfl ?_;clear H;intro a H;exact fin H iJ rfl
 ·refine dL 0 20 1 21 rfl rfl fun _ a w G1 hG HT H fin=>?_;refine s_call Sn H wn rfl (Vs _ _ H.ro k _ _ (by omega) (fun i hi=>(hcb.mono hG) i (by omega))) rfl ?_;clear H;rintro v22 Xy a w rfl TY H;exact fin H TY (rfl)
 ·refine eu 4 24 rfl rfl fun _ a w G1 hG HT H fin=>?_;refine s_call jQ H wn rfl (jU _ _ H.ro _ 8) rfl ?_;clear H;rintro v25 J3 a w ⟨rfl,-⟩ T9 H;exact fin H T9 (rfl)
 ·refine eu 7 27 rfl rfl fun _ a w G1 hG HT H fin=>?_;refine s_call Zc H wn rfl (X8 _ _ H.ro x.author hte.1) rfl ?_;clear H;rintro v28 Q6 a w ⟨rfl,-⟩ alH H;exact fin H alH (rfl)
 ·refine eu 9 29 rfl rfl fun _ a w G1 hG HT H fin=>?_;refine s_call jQ H wn rfl (jU _ _ H.ro _ 39) rfl ?_;clear H;rintro v30 zF a w ⟨rfl,-⟩ KU H;exact fin H KU (rfl)
 ·refine eu 12 32 rfl rfl fun _ a w G1 hG HT H fin=>?_;refine s_call xK H wn rfl (xW _ _ H.ro x.time 0 1099511627776) rfl ?_;clear H;rintro v33 Xz a w ⟨rfl,-⟩ Ub H;exact fin H Ub (rfl)
 ·refine eu 14 34 rfl rfl fun _ a w G1 hG HT H fin=>?_;refine s_call jQ H wn rfl (jU _ _ H.ro _ 40) rfl ?_;clear H;rintro v35 XA a w ⟨rfl,-⟩ Ud H;exact fin H Ud (rfl)
 ·refine eu 17 37 rfl rfl fun _ a w G1 hG HT H fin=>?_;refine s_call SA H wn rfl (WT _ _ H.ro x.text hte.2) rfl ?_;clear H;rintro v38 Nk a w rfl Uf H;exact fin H Uf (rfl)
 clear H;intro a w G rV H hv;have H:=H.aN (hv 2 22 rfl rfl) rfl;have H:=H.aN (hv 5 25 rfl rfl) rfl;have H:=H.aN (hv 10 30 rfl rfl) rfl;have H:=H.aN (hv 15 35 rfl rfl) rfl;have H:=H.aN (hv 18 38 rfl rfl) rfl;clear hv;refine gQ qz iD [_,_,_,_,_] [_,_,_,_,_] H wn rfl rfl rfl rfl rfl (by intro i q h;match i,h with|0,h=>exact h|1,h=>exact h|2,h=>exact h|3,h=>exact h|4,h=>exact h|n+5,h=>simp at h) rfl rfl ?_;clear H;intro b39 a w auS H;obtain ⟨XB,O4,amv,H⟩:=H.eB;refine s_call rT H wn rfl (rU _ _ H.ro _ _ (Gy [qm (fun k=>(l[k]?.map fM.id).getD 0) k,dh (!bf) 8,dh (!wM x.author) 39,dh (!decide (0≤x.time∧x.time≤1099511627776)) 40,Dx x.text] amv (show 5≤maxLen by decide))) rfl ?_;clear H;rintro v40 _ a w ⟨rfl,rfl⟩ - H;refine kH H (Ra rfl ?_);clear H;intro a H;refine aC ⟨rfl,?_⟩;refine K3 _ _ ?_;clear K3;refine lr H results186 rfl ?_;exact H.rt (by rw [he,R6,← hbf])
def NR (l:List fM):Int:=dY [dh (decide (1024 < (l.length:Int))) 9,kr (Io l) (min l.length 1024)]
theorem agB (G:GH) (w0:World) (hG:Hold G w0) (l:List fM) (v:aj) (hv:au G (.sl 6 (l.map fM.dat)) v) (hl:l.length≤4294967296) (ht:∀ x∈l,x.author.size < 4611686018427387904∧x.text.size < 4611686018427387904) :
  Calls prog 121 #[v] w0 (bB w0 G fun u G'=>u=vi (NR l)):=by
 obtain ⟨A,c,rfl,hc1,hc2,-⟩:=hv.slice;rw [bO] at *;refine eN [(0,_)] func121 rfl ntmps121 rfl rfl hG ?_;intro a H;refine fK (fun _ K1=>?_);refine dW (cs:=[_]) H wn rfl rfl rfl ?_;clear H;intro b1 a w hb1 H;refine kH H (aF K1 rfl (SQ fun _ K2=>?_));clear H K1;intro a H;have H:=H.sub (T':=[(1,_)]) ⟨rfl,aL⟩;obtain ⟨Ga,hma,hb1',H⟩:=H.eB
 have hbl:aH Ga b1 0=some (.slice A l.length c):=by unfold aH;rw [hb1'];rfl
 have hcb:=ahh hbl (hv.mono hma) hl ht;refine dI hmx [[],[0],[0,1],[0,1,2],[],[4],[4,5],[],(ra 0 8),(ra 0 9),(ra 0 10),(ra 0 11)] [9,10,11] (by kernel_rfl) [_,_,_,vi (dh (decide (1024 < (l.length:Int))) 9),_,_,vi ((min l.length 1024:Nat):Int),.func (.func 186) #[] #[(aM b1 0)],vi (kr (Io l) (min l.length 1024))] H (aD (X0 rfl fun hG=>Rg Dz rfl (aG hG hbl)) (Z1 0 3 rfl (Rl xD rfl)) (Z1 1 4 rfl (Rc rfl)) ?_ (aD (X0 rfl fun hG=>Rg Dz rfl (aG hG hbl)) (Z1 4 7 rfl (Rl xD rfl)) ?_ ?_ (aD ?_ (bS rfl) (bS rfl) (bS rfl) cO))) ?_
 ·refine eu 2 5 rfl rfl fun _ a w G1 hG HT H fin=>?_;refine s_call jQ H wn rfl (jU _ _ H.ro _ 9) rfl ?_;clear H;rintro v6 G6 a w ⟨rfl,-⟩ gM H;exact fin H gM (rfl)
 ·refine eu 5 8 rfl rfl fun _ a w G1 hG HT H fin=>?_;refine Qt H wn rfl rfl rfl ?_;clear H;intro a H;exact fin H iJ (aB vi (by omega))
 ·refine Co rfl fun _ a w G1 hG HT H fin=>?_;refine qy H wn rfl rfl ?_;clear H;intro a H;exact fin H iJ rfl
 ·refine dL 6 9 7 10 rfl rfl fun _ a w G1 hG HT H fin=>?_;refine s_call Iu H wn rfl (Km _ _ H.ro (min l.length 1024) (Io l) _ (by omega) ((hcb.mono hG).le (Nat.min_le_left _ _))) rfl ?_;clear H;rintro v11 tC a w rfl mF H;exact fin H mF (rfl)
 clear H;intro a w G iY H hv;have H:=H.aN (hv 3 6 rfl rfl) rfl;have H:=H.aN (hv 8 11 rfl rfl) rfl;clear hv;refine gQ qz iD [_,_] [_,_] H wn rfl rfl rfl rfl rfl (by intro i q h;match i,h with|0,h=>exact h|1,h=>exact h|n+2,h=>simp at h) rfl rfl ?_;clear H;intro b12 a w FR H;obtain ⟨Cm,CW,FT,H⟩:=H.eB;refine s_call rT H wn rfl (rU _ _ H.ro _ _ (zo FT)) rfl ?_;clear H;rintro v13 _ a w ⟨rfl,rfl⟩ - H;refine kH H (Ra rfl ?_);clear H;intro a H;refine aC ⟨rfl,?_⟩;refine K2 _ _ ?_;clear K2;refine lr H results121 rfl ?_;exact H.rt rfl
def xX:Nat→List Int→List MapEntry
 | _,[]=>[]
 | i,k :: r=>⟨.int .i64 k,.int .i64 (i:Int),i⟩ :: xX (i+1) r
theorem acr (x:Int):∀ (i:Nat) (l:List Int),xX i (l++[x])=xX i l++[⟨.int .i64 x,.int .i64 ((i+l.length:Nat):Int),i+l.length⟩]
 | _,[]=>rfl
 | i,k :: r=>by
  rw [oq,xX,acr x (i+1) r,xX,oq,kU,show i+1+r.length=i+(r.length+1) by omega]
def wh (x:Int):Nat→List Int→Option Nat
 | _,[]=>none
 | i,k :: r=>if k=x then some i else wh x (i+1) r
theorem abO {x:Int}:∀ {l:List Int} {i n:Nat},wh x i l=some n→i≤n
 | [],_,_,h=>by cases h
 | k :: r,i,n,h=>by
  rw [wh] at h;split at h
  ·cases h;exact bR _
  ·have:=abO h;omega
theorem abQ {x:Int}:∀ {l:List Int} {i:Nat},x∉l→wh x i l=none
 | [],_,_=>rfl
 | k :: r,i,h=>by
  rw [wh,ah (fun e=>h (by simp [e])),abQ (fun hm=>h (fJ _ hm))]
theorem Tq (x:Int):∀ (i j:Nat) (l:List Int),Instr.findNow (.int .i64) (.int .i64 x) (xX i l) j=some ((wh x i l).map fun n=>(j+(n - i),.int .i64 (n:Int)))
 | _,_,[]=>rfl
 | i,j,k :: r=>by
  have ih:=Tq x (i+1) (j+1) r
  by_cases e:k=x
  ·subst e
   simp only [xX,Instr.findNow,Instr.sameNow,ak,wh,beq_self_eq_true]
   simp
  ·have hb:(x == k)=false:=by simp;exact fun h=>e h.symm
   simp only [xX,Instr.findNow,Instr.sameNow,ak,hb,wh,ah e,ih]
   cases h:wh x (i+1) r with
   | none=>rfl
   | some n =>
    have:=abO h
    simp only [vE,oK,iG,and_true]
    omega
abbrev afL (b:Nat) (l:List Int):Nat × Obj:=(b,.map (xX 0 l).toArray l.length)
theorem apu (l:List Int) (x:Int):(xX 0 l).toArray.push ⟨.int .i64 x,.int .i64 (l.length:Int),l.length⟩=(xX 0 (l++[x])).toArray:=by
 rw [acr,List.push_toArray,gD]
section
section
variable {P:Program} {N:Nat} {D:List Deferred} {w0 w w':World} {F:Nat→Prop} {G0 G G':GH} {L L' Li Lo:OL} {T:List (Nat × aj)} {a a':Act} {Q:Exit→Act→World→Prop}
variable {r:Option Nat} {ops:Array Oper} {rest:List Oper}
def Rh (P:Program) (Gi:GH) (B:OL) (gv:aj) (xs:List AP):Prop :=
 ∀ (J:Nat→GH→OL→Prop) (Jx:GH→OL→Prop) (fv:aj) (G:GH) (L:OL) (w:World),fv.cells=#[fv]→(∀ b o,Gi b=some o→G b=some o)→H7 J→Kj Jx→J 0 G L→gG G (B++L) w→Nf P fv G xs J Jx →
  rO P gv [fv] w (fP w G (B++L) fun _ G' L'=>J xs.length G' L'∨Jx G' L')
theorem Rh.mono {Gi DT:GH} {B:OL} {gv:aj} {xs:List AP} (h:Rh P Gi B gv xs) (hm:∀ b o,Gi b=some o→DT b=some o):Rh P DT B gv xs :=
 fun J Jx fv G L w h0 h1=>h J Jx fv G L w h0 fun b o hb=>h1 b o (hm b o hb)
end
end
section
section
variable {P:Program} {N:Nat} {D:List Deferred} {w0 w w':World} {F:Nat→Prop} {G0 G G':GH} {L L' Li Lo:OL} {T:List (Nat × aj)} {a a':Act} {Q:Exit→Act→World→Prop}
variable {r:Option Nat} {ops:Array Oper} {rest:List Oper}
def H6 (P:Program) (Gi:GH) (B:OL) (gv:aj) (xs:List AP) (fin:Bool):Prop :=
 ∀ (J:Nat→GH→OL→Prop) (Jx:GH→OL→Prop) (fv:aj) (G:GH) (L:OL) (w:World),fv.cells=#[fv]→(∀ b o,Gi b=some o→G b=some o)→H7 J→Kj Jx→J 0 G L→gG G (B++L) w→Nf P fv G xs J Jx→(fin=false→∀ g l,¬ J xs.length g l) →
  rO P gv [fv] w (fP w G (B++L) fun _ G' L'=>J xs.length G' L'∨Jx G' L')
theorem H6.mono {Gi DT:GH} {B:OL} {gv:aj} {xs:List AP} {fin:Bool} (h:H6 P Gi B gv xs fin) (hm:∀ b o,Gi b=some o→DT b=some o):H6 P DT B gv xs fin :=
 fun J Jx fv G L w h0 h1=>h J Jx fv G L w h0 fun b o hb=>h1 b o (hm b o hb)
theorem agd {fin:Bool} {B:OL} {zP:Operand} {ps:List Nat} {assign body:Code} {gf:FuncId} {caps:List aj} {xs:List AP} {Gi:GH}
  (H:St N D w0 F G0 G (B++L) T a w) (hg:ev T zP=some (.func (.func gf) #[] caps.toArray)) (en:∀ args w,(callFunc gf args).run P w=.ok (.enter gf args) w) (hit:H6 P Gi B (.func (.func gf) #[] caps.toArray) xs fin) (hGi:∀ b o,Gi b=some o→G b=some o)
  (hps:ps.all (Nat.blt · N)=true) (hlen:∀ k args g,yE xs k args g→args.length=ps.length)
  (J:Nat→GH→OL→Prop) (Jx:Code→GH→OL→Prop) (hno:fin=false→∀ g l,¬ J xs.length g l) (Bw:H7 J) (hJx:∀ c,Kj (Jx c)) (h0:J 0 G L) (U5:Rz P N ps assign body T G J Jx xs)
  (hdone:∀ Dk G1 L1 a1 w1,(∀ b o,G b=some o→G1 b=some o)→J xs.length G1 L1→St N ({ target:=.collected Dk,args:=#[] } :: D) w0 F G0 G1 ((Dk,.deferred (some [])) :: L1) T a1 w1→Q .normal a1 w1)
  (hstop:∀ Dk c G1 L1 a1 w1,(∀ b o,G b=some o→G1 b=some o)→Jx c G1 L1→St N ({ target:=.collected Dk,args:=#[] } :: D) w0 F G0 G1 ((Dk,.deferred (some [])) :: L1) T a1 w1→WP none P c Q a1 w1) :
  WP none P (.rangeFunc zP ps.toArray assign body) Q a w:=by
 refine wpIn_rangeFunc ?_
 intro fn _
 have hev:=H.ev hg
 let q:Rec:=⟨fn,a.tmps,ps.toArray,assign,body,w.heap.size⟩
 obtain ⟨W1,hW1⟩:∃ W1,W1=(w.alloc (.deferred (some []))).alloc (q.at .ready none):=⟨_,rfl⟩
 have H1:Hp w0 F G0 G (B++((w.heap.size+1,q.at .ready none) :: (w.heap.size,.deferred (some [])) :: L)) W1:=by
  have:=(H.hp.alloc (.deferred (some []))).alloc (q.at .ready none)
  rw [World.size_alloc] at this
  rw [hW1]
  refine this.perm ?_
  have e:=vG (l₁:=[(w.heap.size+1,q.at .ready none),(w.heap.size,Obj.deferred (some []))]) (l₂:=B)
  have e2:=List.Perm.append_right L e
  rw [jm,jm] at e2
  exact e2
 refine ⟨w.heap.size+1,[{ target:=.collected w.heap.size,args:=#[] }],W1,{ target:=.fn (.func gf) caps.toArray,args:=#[.func (.yield (w.heap.size+1)) #[] #[]] },W1,gf,
  #[.func (.yield (w.heap.size+1)) #[] #[]]++caps.toArray,W1,by rw [hW1];exact run_enterLoop_outer fn a.tmps ps.toArray assign body,?_,fun _ _=>trivial,?_,Ni none,?_⟩
 ·simp only [resolve,rangeCall,hev]
  simp [Deferred.ofValue,Act.eval]
 ·simp [invoke,en]
 ·have hcv:=hit (fun k=>Jr (w.heap.size+1) q [(w.heap.size,.deferred (some []))] (J k)) (Np (w.heap.size+1) q [(w.heap.size,.deferred (some []))] Jx) (.func (.yield (w.heap.size+1)) #[] #[]) G
   ((w.heap.size+1,q.at .ready none) :: (w.heap.size,.deferred (some [])) :: L) W1 rfl hGi (fun k G G' L hm ⟨Lu,e,h⟩=>⟨Lu,e,Bw k G G' Lu hm h⟩) (fun G G' L hm ⟨c,Lu,e,h⟩=>⟨c,Lu,e,hJx c G G' Lu hm h⟩) ⟨L,rfl,h0⟩ (Hp.owns (Li:=[]) H1) (Ym H.nU H.get hps hlen U5) (fun e g l ⟨Lu,_,h⟩=>hno e g Lu h)
  replace hcv:=hcv.go
  have e:(do let d ← Deferred.ofValue (.func (.func gf) #[] caps.toArray) [Value.func (.yield (w.heap.size+1)) #[] #[]].toArray;invoke d.target d.args:Sem Next).run P W1=.ok (.enter gf (#[.func (.yield (w.heap.size+1)) #[] #[]]++caps.toArray)) W1:=by
   simp [Deferred.ofValue,invoke,en]
  rw [e] at hcv
  refine (RQ hcv).mono ?_
  rintro e w2 ⟨v,G2,L2,rfl,hch,hJ⟩
  have H2:=Hp.change (Li:=[]) H1 hch
  rcases hJ with ⟨Lu,rfl,hJ⟩|⟨c,Lu,rfl,hJ⟩
  ·have hl:=H2.own _ (eX)
   have H3:=(H2.upd (i:=0) rfl (EZ (q.at .exhausted none) hl)).drop (Bd _ _)
   exact ⟨none,_,run_endLoop hl (by simp),hdone _ G2 Lu _ _ hch.gm hJ ⟨H.nU,H.get,by simp [H.tX],H3⟩⟩
  ·have hl:=H2.own _ (eX)
   have H3:=(H2.upd (i:=0) rfl (EZ (q.at .exhausted (some c)) hl)).drop (Bd _ _)
   exact ⟨some c,_,run_endLoop hl (by simp),hstop _ c G2 Lu _ _ hch.gm hJ ⟨H.nU,H.get,by simp [H.tX],H3⟩⟩
theorem agh {fin:Bool} {B:OL} {ι κ:Type} {Lc:OL} {zP:Operand} {ps:List Nat} {assign body:Code} {gf:FuncId} {caps:List aj} {xs:List AP} {Gi:GH}
  (Lv:Nat→ι→OL) (Lt:Nat→ι→OL) (inv:Nat→ι→GH→Prop) (cx:κ→Code) (Lx Fu:κ→OL) (Ak:κ→GH→Prop) (i0:ι)
  (H:St N D w0 F G0 G (B++(Lc++Lv 0 i0++Lt 0 i0)) T a w) (hg:ev T zP=some (.func (.func gf) #[] caps.toArray)) (en:∀ args w,(callFunc gf args).run P w=.ok (.enter gf args) w) (hit:H6 P Gi B (.func (.func gf) #[] caps.toArray) xs fin) (hGi:∀ b o,Gi b=some o→G b=some o)
  (hno:fin=false→∀ i g,¬ inv xs.length i g) (hps:ps.all (Nat.blt · N)=true) (hlen:∀ k args g,yE xs k args g→args.length=ps.length) (hinv:∀ k i (G G':GH),(∀ b o,G b=some o→G' b=some o)→inv k i G→inv k i G') (UU:∀ x (G G':GH),(∀ b o,G b=some o→G' b=some o)→Ak x G→Ak x G') (h0:inv 0 i0 G)
  (round:∀ (l:Nat) (GZ Cu:Obj) (bk:OL) (k:Nat) (args:List aj) (i:ι) (G1:GH) (w1:World) (F1:Nat→Prop) (B1:Code→Exit→Act→World→Prop) (a1:Act),yE xs k args G1→(∀ b o,G b=some o→G1 b=some o)→inv k i G1 →
   (∀ T' G2 L2 a2 w2 c,St N [] w1 F1 G1 G2 ((l,GZ) :: L2) T' a2 w2→(∀ w3,St N [] w1 F1 G1 G2 ((l,Cu) :: L2) T' a2 w3→WP (some l) P c (B1 c) a2 w3)→Exit.then (fun a2 w2=>∃ w3,(Instr.beginRound l).run P w2=.ok () w3∧c.wpIn (FW (some l)) 0 P (B1 c) a2 w3) (fun _ _ _=>False) .normal a2 w2) →
   (∀ i' T' G2 a2 w2 c,St N [] w1 F1 G1 G2 ((l,Cu) :: (Lc++Lv (k+1) i'++(bk++Lt (k+1) i'))) T' a2 w2→inv (k+1) i' G2→B1 c .normal a2 w2) →
   (∀ x T' G2 a2 w2 c,St N [] w1 F1 G1 G2 ((l,Cu) :: (Lc++Lx x++(bk++Fu x))) T' a2 w2→Ak x G2→(cx x=.ret→B1 c .ret a2 w2)∧∀ n,cx x=.exit n→B1 c (.exit n) a2 w2) →
   St N [] w1 F1 G1 G1 ((l,GZ) :: (Lc++Lv k i++(bk++Lt k i))) (Bh ps args T) a1 w1 →
   WP (some l) P assign (Exit.then (fun a2 w2=>∃ w3,(Instr.beginRound l).run P w2=.ok () w3∧body.wpIn (FW (some l)) 0 P (B1 body) a2 w3) (fun _ _ _=>False)) a1 w1)
  (hdone:∀ Dk i G1 a1 w1,(∀ b o,G b=some o→G1 b=some o)→inv xs.length i G1→St N ({ target:=.collected Dk,args:=#[] } :: D) w0 F G0 G1 ((Dk,.deferred (some [])) :: (Lc++Lv xs.length i++Lt xs.length i)) T a1 w1→Q .normal a1 w1)
  (hstop:∀ Dk x G1 a1 w1,(∀ b o,G b=some o→G1 b=some o)→Ak x G1→St N ({ target:=.collected Dk,args:=#[] } :: D) w0 F G0 G1 ((Dk,.deferred (some [])) :: (Lc++Lx x++Fu x)) T a1 w1→WP none P (cx x) Q a1 w1) :
  WP none P (.rangeFunc zP ps.toArray assign body) Q a w:=by
 refine agd (J:=fun k g L=>∃ i,L=Lc++Lv k i++Lt k i∧inv k i g) (Jx:=fun c g L=>∃ x,c=cx x∧L=Lc++Lx x++Fu x∧Ak x g) H hg en hit hGi hps hlen (hno:=fun e g l ⟨i,_,h⟩=>hno e i g h) (fun k G G' L hm ⟨i,e,h⟩=>⟨i,e,hinv k i G G' hm h⟩) (fun c G G' L hm ⟨x,e1,e2,h⟩=>⟨x,e1,e2,UU x G G' hm h⟩) ⟨i0,rfl,h0⟩ ?_ ?_ ?_
 ·rintro l q bk k args G1 L1 w1 a1 hk hm ⟨i,rfl,hi⟩ H1
  have pm:∀ A B:OL,(bk++(A++B)).Perm (A++(bk++B)):=fun A B=>by
   rw [← jm,← jm]
   exact List.Perm.append_right B vG
  refine round l (q.at .ready none) (q.at .busy none) bk k args i G1 w1 _ (fun _=>roundPost P l _) a1 hk hm hi ?_ ?_ ?_ (H1.perm (List.Perm.cons _ (pm _ _)))
  ·intro T' G2 L2 a2 w2 c H2 h
   exact Yj H2 h
  ·intro i' T' G2 a2 w2 c H2 h2
   exact JE none (H2.perm (List.Perm.cons _ (pm _ _).symm)) ⟨_,rfl,i',rfl,h2⟩
  ·intro x T' G2 a2 w2 c H2 h2
   have H3:=H2.perm (List.Perm.cons _ (pm _ _).symm)
   refine ⟨fun e=>?_,fun n e=>?_⟩
   ·exact JE (some .ret) H3 ⟨_,_,rfl,x,e.symm,rfl,h2⟩
   ·exact JE (some (.exit n)) H3 ⟨_,_,rfl,x,e.symm,rfl,h2⟩
 ·rintro Dk G1 L1 a1 w1 hm ⟨i,rfl,hi⟩ H1
  exact hdone Dk i G1 a1 w1 hm hi H1
 ·rintro Dk c G1 L1 a1 w1 hm ⟨x,rfl,rfl,hx⟩ H1
  exact hstop Dk x G1 a1 w1 hm hx H1
end
end
theorem EY:prog.underlying 130=some (.map 3 3):=by kernel_rfl
instance:lD prog 130 (.map 3 3):=⟨EY⟩
instance Au:Ty prog 31 1 24 [.slice none 0 0] false:=⟨by kernel_rfl,by kernel_rfl⟩
instance akY:dR prog 192 3 3:=⟨by kernel_rfl⟩
theorem Zp:∀ args w,(callFunc 222 args).run prog w=.ok (.enter 222 args) w:=enters func222 rfl (by kernel_rfl)
theorem abP {x:Int}:∀ {l:List Int} {i n:Nat},wh x i l=some n→n < i+l.length
 | [],_,_,h=>by cases h
 | k :: r,i,n,h=>by
  rw [wh] at h;split at h
  ·cases h;simp
  have:=abP h;simp only [kU];omega
def yQ (l:List bU):Nat→Int→List bU
 | 0,_=>[]
 | f+1,id=>if id=0 then [] else match wh id 0 (l.map bU.id) with|none=>[]|some i=>match l[i]? with|none=>[]|some s=>s :: yQ l f s.base
def Im (l:List bU) (id:Int):List bU:=yQ l (l.length+1) id
theorem agx {l:List bU} {f:Nat} {id:Int} (h:id=0):yQ l f id=[]:=by
 cases f with
 | zero=>rfl
 | succ f=>rw [yQ,ak h]
theorem agv {l:List bU} {f:Nat} {id:Int} (h0:¬ id=0) (h:wh id 0 (l.map bU.id)=none):yQ l f id=[]:=by
 cases f with
 | zero=>rfl
 | succ f=>rw [yQ,ah h0,h]
theorem agw {l:List bU} {f i:Nat} {id:Int} (h0:¬ id=0) (h:wh id 0 (l.map bU.id)=some i) (hi:i < l.length):yQ l (f+1) id=l[i] :: yQ l f l[i].base:=by
 rw [yQ,ah h0,h];dsimp only;rw [dZ hi]
def stP (x:bU):AP:=fun args g=>∃ cs,args=[.agg cs.toArray]∧aV g x.dat cs
theorem aef {A:List bU} {k:Nat} {args:List aj} {g:GH} (h:yE (A.map stP) k args g):∃ (hk:k < A.length) (cs:List aj),args=[.agg cs.toArray]∧aV g A[k].dat cs:=by
 obtain ⟨p,hp,hargs⟩:=h;rw [sM] at hp;obtain ⟨q,hq,rfl⟩:=qF.1 hp;obtain ⟨hk,rfl⟩:=jO.1 hq;obtain ⟨cs,h1,h2⟩:=hargs;exact ⟨hk,cs,h1,h2⟩
abbrev bI (b:Nat) (n:Int):Nat × Obj:=(b,.cells #[vi n] 3 (0,0))
theorem agy {G:GH} {bl bi:Nat} {l:List bU} {id:Int} {v:aj} (hb:aH G bl 0=some v) (hv:au G (.sl 6 (l.map bU.dat)) v) (hnd:∀ (k:Nat) (h:k < l.length),l[k].id∉(l.take k).map bU.id) :
  H6 prog G [bI bi id] (.func (.func 222) #[] #[(aM bl 0),(aM bi 0)]) ((Im l id).map stP) (decide ((Im l id).length≤l.length)):=by
 intro J Jx fv G1 L w0 hfv hGi Bw hJx hJ hO hcb hfin;refine jo (caps:=[(aM bl 0),(aM bi 0)]) Zp ?_;obtain ⟨A,c,rfl,hc1,hc2,-⟩:=hv.slice;have hml:maxLen=9223372036854775807:=rfl;rw [bO] at *;replace hb:=aG hGi hb;replace hv:=hv.mono hGi;refine jr (N:=46) (T:=[(0,_),(1,_),(2,_)]) func222 rfl ntmps222 rfl rfl hO ?_;intro a H;refine fK (fun _ K1=>?_);refine He H wn rfl ?_;clear H;intro bm a w hbm H;refine kH H (aF K1 rfl (SQ fun _ K2=>SR fun _ K3=>Rg Au rfl (by assumption) ?_));clear H K1;intro a H;refine kH H (Rl sI rfl (Rm rfl (Kz K3 (SB ?_))));clear H K3;intro a H;skip;refine eH (ι:=Nat) (Tc:=[(0,_),(1,_),(2,_),(4,_),(10,_),(11,_)]) (Lc:=[(_,_)]) (fun gh=>[(12,vi gh)]) (fun gh=>[afL bm ((l.take gh).map bU.id)]++L) (fun gh=>G1) (fun gh=>gh≤l.length) (fun gh=>l.length - gh) (0) (by exact (H.dX (Pl:=[_,_]) (dN:=[_,_]) [1,0] (by decide) rfl).sub ⟨rfl,rfl,rfl,rfl,rfl,rfl,rfl,aL⟩) ?_ ?_
 ·exact iH _
 clear H;intro k a w hI H;have hk:=hI;dsimp only [lca,bK] at H;refine kP H (SR fun _ K4=>Rc rfl (Kz K4 (SQ fun _ K5=>Cd rfl ?_ ?_))) <;> clear H K4
 ·intro jD a H
  try have qp:=dT jD
  have hk2:k < l.length:=by omega
  obtain ⟨b,o,pA,pc,rfl,hrow,hp,hrep⟩:=Du hv hk2;have anC:=hnd k hk2
  have hlk:((l.take k).map bU.id).length=k:=by rw [bO,List.length_take];omega
  have hnx:(l.take k).map bU.id++[l[k].id]=(l.take (k+1)).map bU.id:=by rw [fV hk2,kV];rfl
  refine kP H (Kc K5 (SQ fun _ K6=>SB (SR fun _ K7=>Rm rfl (Ri sI jK rfl rfl ?_))));clear H K5;intro a H;refine aR jK (cs:=[_,_,_,_,_,_]) H wn rfl rfl (fun j v hj=>H.hp.aH (hrow j v hj)) rfl ?_;clear H;intro a H;refine dJ jK H wn rfl ?_;clear H;intro b6 a w hb6 H;refine kH H (Ra rfl ?_);clear H;intro a H;refine aY jK 0 (vs:=[_,_,_,_,_,_]) _ H wn rfl rfl rfl rfl rfl rfl rfl rfl ?_;clear H;intro w H;dsimp only [List.set,setRow] at H;refine K7 _ _ ?_;clear K7;refine kP H (SC (Rm rfl (dU Bo aT 0 rfl rfl (Rm rfl ?_))));clear H;intro a H;refine adP (i:=2) (ky:=vi l[k].id) (v:=vi k) EY lq H wn rfl rfl rfl rfl (by trivial) (by rw [List.toList_toArray,Tq,abQ anC];rfl) ?_;clear H;intro w H
  have hpush:((xX 0 ((l.take k).map bU.id)).toArray.push ⟨vi l[k].id,vi k,((l.take k).map bU.id).length⟩)=(xX 0 ((l.take (k+1)).map bU.id)).toArray:=by rw [← hnx,← apu,hlk]
  rw [hpush,show ((l.take k).map bU.id).length+1=((l.take (k+1)).map bU.id).length by rw [← hnx];simp] at H;refine kH H (Kn K6 (SC (Rd rfl (Rm rfl ?_))));clear H K6;intro a H;refine aC ?_;refine dx ((k+1)) (by exact (H.dX (Pl:=[_,_,_]) (dN:=[_,_]) [1,2] (by decide) rfl).sub ⟨rfl,rfl,rfl,rfl,rfl,rfl,rfl,aL⟩) ?_
  exact by omega
 intro jD a H
 try have qp:=dF jD
 obtain rfl:k=l.length:=by omega
 rw [vJ] at H;refine jI ?_;refine K2 _ _ ?_;clear K2;refine Kq ?_;skip;refine eH (ι:=Int × Nat × Nat × OL × GH) (Tc:=[(0,_),(1,_),(2,_),(4,_)]) (Lc:=[(_,_)]) (fun gh=>[]) (fun gh=>[bI bi gh.1]++gh.2.2.2.1) (fun gh=>gh.2.2.2.2) (fun gh=>(∀ b o,G1 b=some o→gh.2.2.2.2 b=some o)∧Now ((Im l id).map stP) stP J (Im l id).length gh.2.2.1 (yQ l gh.2.1 gh.1) gh.2.2.2.2 gh.2.2.2.1∧gh.2.2.1+gh.2.1=l.length+1) (fun gh=>gh.2.1) ((id,l.length+1,0,L,G1)) (by exact (H.dX (Pl:=[_,_]) (dN:=[_,_]) [1,0] (by decide) rfl).sub ⟨rfl,rfl,rfl,rfl,aL⟩) ?_ ?_
 ·exact ⟨fun _ _ h=>h,⟨hJ,fun i a h=>by rw [gD,sM];rw [show yQ l (l.length+1) id=Im l id from rfl] at h;rw [h];rfl,gD _⟩,gD _⟩
 clear H;rintro ⟨i,f,j1,Lt,g⟩ a w hI H;dsimp only at hI H;obtain ⟨hgm,jh,hjf⟩:=hI;have hbg:=aG hgm hb;dsimp only [lca,bK] at H;refine kP H (SQ fun _ K8=>SR fun _ K9=>Ro aT 1 rfl (Rc rfl (Kz K9 (Cd rfl ?_ ?_)))) <;> clear H K9
 ·intro h23 a H
  try have BP:=dT h23
  have h0:¬ i=0:=by simpa using h23
  obtain ⟨an,han⟩:∃ an,an=wh i 0 (l.map bU.id):=⟨_,rfl⟩;have hfn:=Tq i 0 0 (l.map bU.id);rw [← han] at hfn;refine kP H (Kc K8 (SB (SR fun _ eU=>Rm rfl (Ro aT 1 rfl ?_))));clear H K8;intro a H;refine arV (i:=0) (zv:=vi 0) _ EY lq (by kernel_rfl) H wn rfl rfl rfl (by trivial) (by simpa using hfn) rfl ?_;clear H;intro a H;refine kH H (Rm rfl ?_);clear H;intro a H;(iterate 2 refine lQ H wn rfl rfl rfl ?_;clear H;intro a H);refine kH H (Ra rfl (aF eU rfl (SQ fun _ fQ=>SR fun _ iF=>Rm rfl (Rn rfl (Rm rfl (Sp 32 rfl ?_ ?_)))))) <;> clear H eU
  ·intro h32 a H
   try have p32:=dT h32
   obtain rfl:an=none:=by
    cases an with
    | none=>rfl
    | some n=>simp [Di] at h32
   rw [agv h0 han.symm] at jh;refine kH H (fB h32 rfl (fU h32 rfl (fU h32 rfl (Pt h32 rfl (Kz iF (Ct rfl rfl ?_))))));clear H iF;intro a H;refine cK ?_;refine (leave0 H results222 ?_).1;refine H.hp.kZ (L':=Lt) (by repeat (first|exact kF _|apply List.Sublist.cons)) (.inl ?_);have h:=jh.len
   simp only [List.length_nil,xH] at h
   rw [← h];exact jh.now
  intro h32 a H
  try have p32:=dF h32
  obtain ⟨n,rfl⟩:∃ n,an=some n:=by
   cases an with
   | none=>simp [Di] at h32
   | some n=>exact ⟨n,rfl⟩
  have hnl:n < l.length:=by have:=abP han.symm;simpa using this
  obtain ⟨f',rfl⟩:∃ f',f=f'+1:=by
   cases f with
   | succ f'=>exact ⟨f',rfl⟩
   | zero =>
    exfalso
    have hl:=jh.len
    simp only [yQ,List.length_nil,xH] at hl
    refine hfin (jf (by omega)) g Lt ?_;rw [← hl];exact jh.now
  rw [agw h0 han.symm hnl] at jh;dsimp only [Di,Option.map_some] at H;obtain ⟨b,o,pA,pc,rfl,hrow,hp,hrep⟩:=Du (hv.mono hgm) hnl;refine kH H (YM h32 rfl (YR Au h32 rfl (by assumption) ?_));clear H;intro a H;refine kH H (YM h32 rfl (YI sI jK h32 rfl rfl ?_));clear H;intro a H;refine aR jK (cs:=[_,_,_,_,_,_]) H (wg H rfl rfl h32) rfl rfl (fun j v hj=>H.hp.aH (hrow j v hj)) rfl ?_;clear H;intro a H;refine Dq (Li:=[_,_]) (L:=Lt) H (wg H rfl rfl h32) rfl rfl (hcb j1 _ _ _ _ ⟨_,jh.head,_,rfl,hrep⟩ hgm jh.now (Hp.owns (Li:=[_,_]) H.hp)) rfl ?_;clear H;rintro v38 Nk XR a w ⟨b38,rfl,hb1,hb2⟩ Jd H;have hbg:=aG Jd hbg;have r3:=aG Jd (hrow 3 _ rfl);refine kH H (YN h32 rfl (Pf h32 rfl (Kz iF (Cd rfl ?_ ?_)))) <;> clear H iF
  ·intro uQ a H
   try have p40:=dT uQ
   refine cK ?_;refine (leave0 H results222 ?_).1;exact H.hp.kZ (L':=XR) (by repeat (first|exact kF _|apply List.Sublist.cons)) (.inr (hb2 (by simpa using uQ)))
  intro uQ a H
  try have p40:=dF uQ
  refine kP H (Kc fQ (SC (Rg Au rfl (by assumption) ?_)));clear H fQ;intro a H;refine kH H (Rm rfl (Ri sI jK rfl rfl (Rf akY rfl (Rg aT rfl (by assumption) ?_))));clear H;intro a H;refine aY aT 1 (vs:=[_]) _ H wn rfl rfl rfl rfl rfl rfl rfl rfl ?_;clear H;intro w H;dsimp only [List.set,setRow] at H;refine aC ?_;refine dx ((l[n].base,f',j1+1,XR,Nk)) (by exact (H).sub ⟨rfl,rfl,rfl,rfl,aL⟩) ?_
  (try dsimp only);exact ⟨fun b o h=>Jd b o (hgm b o h),jh.step (hb1 (by simpa using uQ)),by omega⟩
 intro h23 a H
 try have BP:=dF h23
 refine jI ?_;refine (leave0 H results222 ?_).2;rw [agx (by simpa using h23)] at jh;refine H.hp.kZ (L':=Lt) (by repeat (first|exact kF _|apply List.Sublist.cons)) (.inl ?_);have h:=jh.len
 simp only [List.length_nil,xH] at h
 rw [← h];exact jh.now
theorem aiK:∀ args w,(callFunc 182 args).run prog w=.ok (.enter 182 args) w:=enters func182 rfl (by kernel_rfl)
theorem aiJ:∀ args w,(callFunc 180 args).run prog w=.ok (.enter 180 args) w:=enters func180 rfl (by kernel_rfl)
theorem Sz:∀ args w,(callFunc 181 args).run prog w=.ok (.enter 181 args) w:=enters func181 rfl (by kernel_rfl)
instance akZ:dR prog 192 4 4:=⟨by kernel_rfl⟩
theorem agz {G:GH} {w0:World} (hO:gG G [] w0) (l:List bU) (id:Int) (v:aj) (hv:au G (.sl 6 (l.map bU.dat)) v) :
  Calls prog 182 #[v,vi id] w0 (fP w0 G [] fun u G' L'=>∃ bl bi,u=.func (.func 222) #[] #[(aM bl 0),(aM bi 0)]∧L'=[bI bi id]∧aH G' bl 0=some v):=by
 obtain ⟨A,c,rfl,hc1,hc2,-⟩:=hv.slice;refine jr (N:=6) (T:=[(0,_),(1,_)]) func182 rfl ntmps182 rfl rfl hO ?_;refine av 1 ?_;intro a H;refine dW (cs:=[_]) H wn rfl rfl rfl ?_;clear H;intro b2 a w hb2 H;refine dW (cs:=[_]) H wn rfl rfl rfl ?_;clear H;intro b3 a w hb3 H;refine bJ 3 H ?_;clear H;intro a H;refine qy H wn rfl rfl ?_;clear H;refine av 2 ?_;intro a H;refine lr H results182 rfl ?_;have H:=H.dX (Pl:=[_,_]) (dN:=[_,_]) [1,0] (by decide) rfl;obtain ⟨Ga,hma,hb2',H⟩:=H.eB;exact H.hp.dM ⟨b2,b3,rfl,rfl,by unfold aH;rw [hb2'];rfl⟩
def uM (p:Nat→Int):Nat→Nat→Int
 | _,0=>0
 | k,n+1=>if p k=0 then uM p (k+1) n else p k
theorem akJ {p:Nat→Int} {k m:Nat} (h:k < m):uM p k (m - k)=if p k=0 then uM p (k+1) (m - (k+1)) else p k:=by
 obtain ⟨n,hn⟩:∃ n,m - k=n+1:=⟨m - k - 1,by omega⟩;rw [hn,uM,show m - (k+1)=n by omega]
theorem akI {p:Nat→Int} {k m:Nat} (h:m≤k):uM p k (m - k)=0:=by rw [show m - k=0 by omega];rfl
theorem ZH {p:Nat→Int}:∀ {n k:Nat},uM p k n=0→∀ j,k≤j→j < k+n→p j=0
 | 0,k,_,j,h1,h2=>by omega
 | n+1,k,h,j,h1,h2=>by
  rw [uM] at h;split at h
  ·rename_i hp
   by_cases e:j=k
   ·rw [e];exact hp
   exact ZH h j (by omega) (by omega)
  rename_i hp;exact absurd h hp
def Ao (l:List bU) (k:Nat):Int:=match l[k]? with|some s=>ji l k s|none=>0
theorem acV {l:List bU} {k:Nat} (h:k < l.length):Ao l k=ji l k l[k]:=by unfold Ao;rw [dZ h]
def uL (l:List bU) (s:bU):Bool:=(decide (s.base≠0) && !GA l s.kind s.base) || (decide (s.next≠0) && (decide (s.kind=2) || !GA l 1 s.next))
def Sd (l:List bU) (s:bU):Bool:=decide (l.length < (Im l s.id).length)
def gZ (l:List bU):Int:=if 128 < l.length then 9 else if uM (Ao l) 0 l.length≠0 then uM (Ao l) 0 l.length else if l.any (uL l)=true then 25 else if l.any (Sd l)=true then 16 else 0
theorem aqd {l:List bU} (h:uM (Ao l) 0 l.length=0) {k:Nat} (hk:k+1 < l.length):l[k].id < l[k+1].id:=by
 have h1:=ZH h (k+1) (iH _) (by omega);rw [acV hk,ji,nA] at h1
 have hp:yZ l (k+1)=some l[k].id:=by rw [yZ,ah (by omega),Nat.add_sub_cancel,dZ (by omega)];rfl
 rw [hp] at h1
 split at h1
 ·cases h1
 split at h1
 ·cases h1
 split at h1
 ·cases h1
 rename_i _ h2 h3
 have h2':¬ l[k].id=l[k+1].id:=fun e=>h2 (by rw [e]);have h3':¬ l[k+1].id < l[k].id:=fun e=>h3 (aI e)
 omega
theorem acW {l:List bU} (h:uM (Ao l) 0 l.length=0):∀ {k j:Nat} (hk:k < l.length) (hj:j < k),l[j].id < l[k].id
 | k+1,j,hk,hj=>by
  have h1:=aqd h hk
  by_cases e:j=k
  ·subst e;exact h1
  have:=acW h (k:=k) (j:=j) (by omega) (by omega)
  omega
theorem acX {l:List bU} (h:uM (Ao l) 0 l.length=0) (k:Nat) (hk:k < l.length):l[k].id∉(l.take k).map bU.id:=by
 intro hm;obtain ⟨x,hx1,hx2⟩:=List.mem_map.1 hm;obtain ⟨j,hj,rfl⟩:=List.getElem_of_mem hx1;rw [List.getElem_take] at hx2;rw [List.length_take] at hj;have:=acW h hk (j:=j) (by omega)
 omega
theorem Ko {α:Type} {p:α→Bool} {l:List α} {k:Nat} (hk:k < l.length) (h:(l.take k).any p=false) (hp:p l[k]=false):(l.take (k+1)).any p=false:=by
 rw [fV hk,List.any_append,h];simp [hp]
theorem wL {α:Type} {p:α→Bool} {l:List α} {k:Nat} (hk:k < l.length) (hp:p l[k]=true):l.any p=true:=List.any_eq_true.2 ⟨_,lH hk,hp⟩
theorem Bg {α:Type} {p:α→Bool} {l:List α} {k:Nat} (hk:l.length≤k) (h:(l.take k).any p=false):¬ l.any p=true:=by
 rw [gu hk] at h;rw [h];decide
theorem agH (G:GH) (w0:World) (hG:Hold G w0) (l:List bU) (v:aj) (hv:au G (.sl 6 (l.map bU.dat)) v) (hN:∀ s∈l,s.name.size≤4611686018427387904) :
  Calls prog 119 #[v] w0 (bB w0 G fun u G'=>u=vi (gZ l)):=by
 obtain ⟨A,c,rfl,hc1,hc2,-⟩:=hv.slice;have hml:maxLen=9223372036854775807:=rfl;rw [bO] at *;refine eN [(0,_)] func119 rfl ntmps119 rfl rfl hG ?_;refine av 1 ?_;intro a H;refine dW (cs:=[_]) H wn rfl rfl rfl ?_;clear H;intro b1 a w hb1 H;refine dJ iD H wn rfl ?_;clear H;intro b2 a w hb2 H;refine qb 7 H ?_ ?_ <;> clear H
 ·intro qo
  refine av 1 ?_;intro a H;refine aY iD 0 (vs:=[_]) _ H wn rfl rfl rfl rfl rfl rfl rfl rfl ?_;clear H;intro w H;dsimp only [List.set,setRow] at H;refine aC ?_;refine oH ?_;refine cK ?_;refine (leave1 H results119 (.cons (Dp iD H rfl (H.hp.sw 0 rfl rfl)) .nil) ?_).1
  first
   | exact H.rt (aB vi (by rw [gZ,ak (by omega)]))
   | exact H.rt (aB vi (by rw [ah (by simpa using jk)] at heq;rw [gZ,ah (by omega),← heq,ak (by simpa using jk)]))
   | exact H.rt (aB vi (by rw [gZ,ah (by omega),ah (by rw [hok];decide),ak hbad]))
   | exact H.rt (aB vi (by rw [gZ,ah (by omega),ah (by rw [hok];decide),ah hbad,ak (wL hj2 hI)]))
   | exact H.rt (aB vi (by rw [gZ,ah (by omega),ah (by rw [hok];decide),ah hbad,ah (Bg (by omega) hnc)]))
 intro qo
 refine av 8 ?_;intro a H;refine eH (ι:=Nat × GH) (Tc:=[(1,_),(2,_),(14,_)]) (Lc:=[(_,_),(_,_)]) (fun gh=>[(15,vi gh.1)]) (fun gh=>[]) (fun gh=>gh.2) (fun gh=>gh.1≤l.length∧uM (Ao l) gh.1 (l.length - gh.1)=uM (Ao l) 0 l.length∧(∀ b o,G b=some o→gh.2 b=some o)) (fun gh=>l.length - gh.1) ((0,G)) sB ?_ ?_
 ·exact ⟨iH _,rfl,fun _ _ h=>h⟩
 clear H;rintro ⟨k,g⟩ a w hI H;dsimp only at hI H;obtain ⟨hk,heq,hgm⟩:=hI;dsimp only [lca,bK] at H;refine iI 4 H ?_ ?_ <;> clear H
 ·intro p16
  have hk2:k < l.length:=by omega
  rw [akJ hk2,acV hk2] at heq;refine av 10 ?_;intro a H;refine s_call aiJ H wn rfl (aqe _ _ H.ro l k _ (hv.mono hgm) hk2 (hN _ (lH hk2))) rfl ?_;clear H;rintro v20 J2 a w rfl rX H;refine qb 6 H ?_ ?_ <;> clear H
  ·intro jk
   refine av 2 ?_;intro a H;refine aY iD 0 (vs:=[_]) _ H wn rfl rfl rfl rfl rfl rfl rfl rfl ?_;clear H;intro w H;dsimp only [List.set,setRow] at H;refine aC ?_;refine oH ?_;refine cK ?_;refine (leave1 H results119 (.cons (Dp iD H rfl (H.hp.sw 0 rfl rfl)) .nil) ?_).1
   first
    | exact H.rt (aB vi (by rw [gZ,ak (by omega)]))
    | exact H.rt (aB vi (by rw [ah (by simpa using jk)] at heq;rw [gZ,ah (by omega),← heq,ak (by simpa using jk)]))
    | exact H.rt (aB vi (by rw [gZ,ah (by omega),ah (by rw [hok];decide),ak hbad]))
    | exact H.rt (aB vi (by rw [gZ,ah (by omega),ah (by rw [hok];decide),ah hbad,ak (wL hj2 hI)]))
    | exact H.rt (aB vi (by rw [gZ,ah (by omega),ah (by rw [hok];decide),ah hbad,ah (Bg (by omega) hnc)]))
  intro jk
  refine av 4 ?_;intro a H;refine aC ?_;refine dx ((k+1,J2)) sB ?_
  (try dsimp only);exact ⟨by omega,by rw [ak (by simpa using jk)] at heq;exact heq,fun b o h=>rX b o (hgm b o h)⟩
 intro p16
 have hok:uM (Ao l) 0 l.length=0:=by rw [← heq];exact akI (by omega)
 clear heq;have BL:=hv.mono hgm;refine av 8 ?_;intro a H;refine eH (ι:=Nat × GH) (Tc:=[(1,_),(2,_),(25,_),(26,_)]) (Lc:=[(_,_),(_,_)]) (fun gh=>[(27,vi gh.1)]) (fun gh=>[]) (fun gh=>gh.2) (fun gh=>gh.1≤l.length∧(l.take gh.1).any (uL l)=false∧(∀ b o,g b=some o→gh.2 b=some o)) (fun gh=>l.length - gh.1) ((0,g)) sB ?_ ?_
 ·exact ⟨iH _,rfl,fun _ _ h=>h⟩
 clear H;rintro ⟨k,g2⟩ a w hI H;dsimp only at hI H;obtain ⟨hk3,hno,jg⟩:=hI;have Aj:=BL.mono jg;dsimp only [lca,bK] at H;refine iI 4 H ?_ ?_ <;> clear H
 ·intro p28
  have hk4:k < l.length:=by omega
  obtain ⟨b,o,pA,pc,rfl,hrow,hp,hrep⟩:=Du Aj hk4;refine av 5 ?_;intro a H;refine aR jK (cs:=[_,_,_,_,_,_]) H wn rfl rfl (fun j v hj=>H.hp.aH (hrow j v hj)) rfl ?_;clear H;intro a H;refine dJ jK H wn rfl ?_;clear H;intro b6 a w hb6 H;refine aY jK 0 (vs:=[_,_,_,_,_,_]) _ H wn rfl rfl rfl rfl rfl rfl rfl rfl ?_;clear H;intro w H;dsimp only [List.set,setRow] at H;refine qd 6 34 H ?_ ?_ <;> clear H
  ·intro mZ
   try have p34:=dT mZ
   refine av 5 ?_;intro a H;refine s_call Sz H (wg H rfl rfl mZ) rfl (Vv _ _ H.ro l l[k].kind l[k].base _ Aj) rfl ?_;clear H;rintro v40 g2 a w rfl F4 H;replace jg:=fun b o (h:g b=some o)=>F4 b o (jg b o h);replace Aj:=Aj.mono F4;refine sS 3 43 H ?_ ?_ <;> clear H
   ·intro p43
    refine av 18 ?_;have hbad:l.any (uL l)=true:=wL hk4 (by unfold uL;simp_all);refine av 1 ?_;intro a H;refine aY iD 1 (vs:=[_]) _ H wn rfl rfl rfl rfl rfl rfl rfl rfl ?_;clear H;intro w H;dsimp only [List.set,setRow] at H;refine aC ?_;refine oH ?_;refine cK ?_;refine (leave1 H results119 (.cons (Dp iD H rfl (H.hp.sw 1 rfl rfl)) .nil) ?_).1
    first
     | exact H.rt (aB vi (by rw [gZ,ak (by omega)]))
     | exact H.rt (aB vi (by rw [ah (by simpa using jk)] at heq;rw [gZ,ah (by omega),← heq,ak (by simpa using jk)]))
     | exact H.rt (aB vi (by rw [gZ,ah (by omega),ah (by rw [hok];decide),ak hbad]))
     | exact H.rt (aB vi (by rw [gZ,ah (by omega),ah (by rw [hok];decide),ah hbad,ak (wL hj2 hI)]))
     | exact H.rt (aB vi (by rw [gZ,ah (by omega),ah (by rw [hok];decide),ah hbad,ah (Bg (by omega) hnc)]))
   intro p43
   refine qJ 4 47 ?_ ?_
   ·intro p47
    refine mX 4 51 ?_ ?_
    ·intro CJ
     try have p51:=dT CJ
     refine av 10 ?_;have hbad:l.any (uL l)=true:=wL hk4 (by unfold uL;simp_all);refine av 1 ?_;intro a H;refine aY iD 1 (vs:=[_]) _ H wn rfl rfl rfl rfl rfl rfl rfl rfl ?_;clear H;intro w H;dsimp only [List.set,setRow] at H;refine aC ?_;refine oH ?_;refine cK ?_;refine (leave1 H results119 (.cons (Dp iD H rfl (H.hp.sw 1 rfl rfl)) .nil) ?_).1
     first
      | exact H.rt (aB vi (by rw [gZ,ak (by omega)]))
      | exact H.rt (aB vi (by rw [ah (by simpa using jk)] at heq;rw [gZ,ah (by omega),← heq,ak (by simpa using jk)]))
      | exact H.rt (aB vi (by rw [gZ,ah (by omega),ah (by rw [hok];decide),ak hbad]))
      | exact H.rt (aB vi (by rw [gZ,ah (by omega),ah (by rw [hok];decide),ah hbad,ak (wL hj2 hI)]))
      | exact H.rt (aB vi (by rw [gZ,ah (by omega),ah (by rw [hok];decide),ah hbad,ah (Bg (by omega) hnc)]))
    intro CJ
    try have p51:=dF CJ
    refine av 3 ?_;intro a H;refine s_call Sz H (wg H rfl rfl CJ) rfl (Vv _ _ H.ro l 1 l[k].next _ Aj) rfl ?_;clear H;rintro v55 g2 a w rfl vY H;replace jg:=fun b o (h:g b=some o)=>vY b o (jg b o h);replace Aj:=Aj.mono vY;refine qb 5 H ?_ ?_ <;> clear H
    ·intro p59
     have hbad:l.any (uL l)=true:=wL hk4 (by unfold uL;simp_all);refine av 1 ?_;intro a H;refine aY iD 1 (vs:=[_]) _ H wn rfl rfl rfl rfl rfl rfl rfl rfl ?_;clear H;intro w H;dsimp only [List.set,setRow] at H;refine aC ?_;refine oH ?_;refine cK ?_;refine (leave1 H results119 (.cons (Dp iD H rfl (H.hp.sw 1 rfl rfl)) .nil) ?_).1
     first
      | exact H.rt (aB vi (by rw [gZ,ak (by omega)]))
      | exact H.rt (aB vi (by rw [ah (by simpa using jk)] at heq;rw [gZ,ah (by omega),← heq,ak (by simpa using jk)]))
      | exact H.rt (aB vi (by rw [gZ,ah (by omega),ah (by rw [hok];decide),ak hbad]))
      | exact H.rt (aB vi (by rw [gZ,ah (by omega),ah (by rw [hok];decide),ah hbad,ak (wL hj2 hI)]))
      | exact H.rt (aB vi (by rw [gZ,ah (by omega),ah (by rw [hok];decide),ah hbad,ah (Bg (by omega) hnc)]))
    intro p59
    refine av 4 ?_;intro a H;refine aC ?_;refine dx ((k+1,g2)) (by exact (H.dX (Pl:=[_,_,_]) (dN:=[_,_]) [1,2] (by decide) rfl).sub ⟨rfl,rfl,rfl,rfl,rfl,aL⟩) ?_
    (try dsimp only);exact ⟨by omega,Ko hk4 hno (by unfold uL;simp_all),jg⟩
   intro p47
   refine av 18 ?_;intro a H;refine aC ?_;refine dx ((k+1,g2)) (by exact (H.dX (Pl:=[_,_,_]) (dN:=[_,_]) [1,2] (by decide) rfl).sub ⟨rfl,rfl,rfl,rfl,rfl,aL⟩) ?_
   (try dsimp only);exact ⟨by omega,Ko hk4 hno (by unfold uL;simp_all),jg⟩
  intro mZ
  try have p34:=dF mZ
  refine av 9 ?_;intro a H;refine JH akZ H (wg H rfl rfl rfl) rfl rfl ?_;clear H;intro a H;refine kL aT H (wg H rfl rfl rfl) rfl (H.hp.sw 0 rfl rfl) rfl ?_;clear H;intro a H;refine ER H (wg H rfl rfl rfl) rfl rfl rfl rfl ?_;clear H;intro a H;refine JI H (wg H rfl rfl rfl) rfl rfl ?_;clear H;refine mX 0 47 ?_ ?_
  ·intro h47
   try have p47:=dT h47
   refine mX 4 51 ?_ ?_
   ·intro CJ
    try have p51:=dT CJ
    refine av 6 ?_;intro a H;refine MH H (wg H rfl rfl rfl) rfl h47 rfl rfl ?_;clear H;refine av 3 ?_;have hbad:l.any (uL l)=true:=wL hk4 (by unfold uL;simp_all);refine av 1 ?_;intro a H;refine aY iD 1 (vs:=[_]) _ H wn rfl rfl rfl rfl rfl rfl rfl rfl ?_;clear H;intro w H;dsimp only [List.set,setRow] at H;refine aC ?_;refine oH ?_;refine cK ?_;refine (leave1 H results119 (.cons (Dp iD H rfl (H.hp.sw 1 rfl rfl)) .nil) ?_).1
    first
     | exact H.rt (aB vi (by rw [gZ,ak (by omega)]))
     | exact H.rt (aB vi (by rw [ah (by simpa using jk)] at heq;rw [gZ,ah (by omega),← heq,ak (by simpa using jk)]))
     | exact H.rt (aB vi (by rw [gZ,ah (by omega),ah (by rw [hok];decide),ak hbad]))
     | exact H.rt (aB vi (by rw [gZ,ah (by omega),ah (by rw [hok];decide),ah hbad,ak (wL hj2 hI)]))
     | exact H.rt (aB vi (by rw [gZ,ah (by omega),ah (by rw [hok];decide),ah hbad,ah (Bg (by omega) hnc)]))
   intro CJ
   try have p51:=dF CJ
   refine av 3 ?_;intro a H;refine s_call Sz H (wg H rfl rfl CJ) rfl (Vv _ _ H.ro l 1 l[k].next _ Aj) rfl ?_;clear H;rintro v55 g2 a w rfl vY H;replace jg:=fun b o (h:g b=some o)=>vY b o (jg b o h);replace Aj:=Aj.mono vY;refine bJ 2 H ?_;clear H;intro a H;refine MH H (wg H rfl rfl rfl) rfl h47 rfl rfl ?_;clear H;refine goB 2 ?_ ?_
   ·intro p59
    have hbad:l.any (uL l)=true:=wL hk4 (by unfold uL;simp_all);refine av 1 ?_;intro a H;refine aY iD 1 (vs:=[_]) _ H wn rfl rfl rfl rfl rfl rfl rfl rfl ?_;clear H;intro w H;dsimp only [List.set,setRow] at H;refine aC ?_;refine oH ?_;refine cK ?_;refine (leave1 H results119 (.cons (Dp iD H rfl (H.hp.sw 1 rfl rfl)) .nil) ?_).1
    first
     | exact H.rt (aB vi (by rw [gZ,ak (by omega)]))
     | exact H.rt (aB vi (by rw [ah (by simpa using jk)] at heq;rw [gZ,ah (by omega),← heq,ak (by simpa using jk)]))
     | exact H.rt (aB vi (by rw [gZ,ah (by omega),ah (by rw [hok];decide),ak hbad]))
     | exact H.rt (aB vi (by rw [gZ,ah (by omega),ah (by rw [hok];decide),ah hbad,ak (wL hj2 hI)]))
     | exact H.rt (aB vi (by rw [gZ,ah (by omega),ah (by rw [hok];decide),ah hbad,ah (Bg (by omega) hnc)]))
   intro p59
   refine av 4 ?_;intro a H;refine aC ?_;refine dx ((k+1,g2)) (by exact (H.dX (Pl:=[_,_,_]) (dN:=[_,_]) [1,2] (by decide) rfl).sub ⟨rfl,rfl,rfl,rfl,rfl,aL⟩) ?_
   (try dsimp only);exact ⟨by omega,Ko hk4 hno (by unfold uL;simp_all),jg⟩
  intro h47
  try have p47:=dF h47
  refine av 10 ?_;intro a H;refine Qv H (wg H rfl rfl rfl) rfl h47 rfl rfl ?_;clear H;refine av 7 ?_;intro a H;refine aC ?_;refine dx ((k+1,g2)) (by exact (H.dX (Pl:=[_,_,_]) (dN:=[_,_]) [1,2] (by decide) rfl).sub ⟨rfl,rfl,rfl,rfl,rfl,aL⟩) ?_
  (try dsimp only);exact ⟨by omega,Ko hk4 hno (by unfold uL;simp_all),jg⟩
 intro p28
 have hbad:=Bg (by omega) hno;refine av 8 ?_;intro a H;refine agb (ι:=Nat × GH × List Nat) (Tc:=[(1,_),(2,_),(61,_),(62,_)]) (Lc:=[(_,_),(_,_)]) (fun gh=>VQ gh.2.2) (fun gh=>[(63,vi gh.1)]) (fun gh=>[]++(GL gh.2.2++[])) (fun gh=>gh.2.1) (fun gh=>gh.1≤l.length∧(l.take gh.1).any (Sd l)=false∧(∀ b o,g2 b=some o→gh.2.1 b=some o)) (fun gh=>l.length - gh.1) ((0,g2,[])) sB ?_ ?_
 ·exact ⟨iH _,rfl,fun _ _ h=>h⟩
 clear H;rintro ⟨j,g3,ds⟩ a w hI H;dsimp only at hI H;obtain ⟨hj,hnc,wW⟩:=hI;have Vn:=Aj.mono wW;dsimp only [lca,bK] at H;refine iI 4 H ?_ ?_ <;> clear H
 ·intro p64
  have hj2:j < l.length:=by omega
  obtain ⟨b,o,pA,pc,rfl,hrow,hp,hrep⟩:=Du Vn hj2;refine av 5 ?_;intro a H;refine aR jK (cs:=[_,_,_,_,_,_]) H wn rfl rfl (fun j v hj=>H.hp.aH (hrow j v hj)) rfl ?_;clear H;intro a H;refine dJ jK H wn rfl ?_;clear H;intro b8 a w BA H;refine aY jK 0 (vs:=[_,_,_,_,_,_]) _ H wn rfl rfl rfl rfl rfl rfl rfl rfl ?_;clear H;intro w H;dsimp only [List.set,setRow] at H;refine bJ 2 H ?_;clear H;intro a H;refine dJ aT H wn rfl ?_;clear H;intro b9 a w uT H;refine aY aT 0 (vs:=[_]) _ H wn rfl rfl rfl rfl rfl rfl rfl rfl ?_;clear H;intro w H;dsimp only [List.set,setRow] at H;refine bJ 5 H ?_;clear H;intro a H;refine gK aiK (Li:=[_,_,_,_]++GL ds) (L:=[]) (St.un (A:=[_,_,_,_]) H) wn rfl (agz (Hp.owns (Li:=[_,_,_,_]++GL ds) (St.un (A:=[_,_,_,_]) H).hp) l l[j].id _ Vn) rfl ?_;clear H;rintro v70 g4 L70 a w ⟨bl,bi,rfl,rfl,hbl⟩ aaV H;have H:=(St.Jy (A:=[_,_,_,_,_]) (B:=GL ds) (H.perm vG));dsimp only [lca,bK] at H;have hit:=agy (l:=l) (id:=l[j].id) (bi:=bi) hbl (Vn.mono aaV) (acX hok);refine bJ 2 H ?_;clear H;intro a H;refine agh (B:=[(_,_)]) (ι:=Unit) (κ:=Int) (Lc:=[(_,_),(_,_)]) (fun (k:Nat) (gh:Unit)=>[(b9,.cells #[vi k] 3 (0,0)),(b2,.cells #[vi 0] 49 (0,0))]) (fun (k:Nat) (gh:Unit)=>(GL ds++[])) (fun (k:Nat) (gh:Unit) (g:GH)=>k≤l.length) (fun (gx:Int)=>Code.ret) (fun (gx:Int)=>[(b9,.cells #[vi gx] 3 (0,0)),(b2,.cells #[vi 16] 49 (0,0))]) (fun (gx:Int)=>(GL ds++[])) (fun (gx:Int) (g:GH)=>Sd l l[j]=true) (()) (by exact H.dX (Pl:=[_,_,_,_,_]) (dN:=[_,_,_,_,_]) [0,2,4,1,3] (by decide) rfl) rfl Zp (hit) (fun _ _ h=>h) (fun e i g h=>absurd (of_decide_eq_false e) (by rw [bO] at h;omega)) rfl (fun k args g h=>by obtain ⟨_,_,rfl,_⟩:=aef h;rfl) (fun _ _ _ _ _ h=>h) (fun _ _ _ _ h=>h) (iH _) ?_ ?_ ?_
  ·clear H;intro l21 GZ Cu bk k args gh Nj w21 F21 B21 a aaM BF hI amE anB aoi H;obtain ⟨aaM,auH,rfl,avu⟩:=aef aaM;dsimp only [Bh,List.cons_append,List.nil_append] at H;refine iw ?_;refine amE _ _ _ _ _ _ (by exact H) ?_;clear H;intro w H;refine mE 4 H ?_;clear H;intro a H;refine aY aT 3 (vs:=[_]) _ H wn rfl rfl rfl rfl rfl rfl rfl rfl ?_;clear H;intro w H;dsimp only [List.set,setRow] at H;refine qb 7 H ?_ ?_ <;> clear H
   ·intro JA
    refine av 1 ?_;intro a H;refine aY iD 4 (vs:=[_]) _ H wn rfl rfl rfl rfl rfl rfl rfl rfl ?_;clear H;intro w H;dsimp only [List.set,setRow] at H;refine aC ?_;refine oH ?_;refine cK ?_;refine (aoi ((k:Int)+1) _ _ _ _ _ (by exact H) ?_).1 rfl;exact iO (by omega)
   intro JA
   intro a H;refine iw ?_;refine anB (()) _ _ _ _ _ (by exact H) ?_
   omega
  ·clear H;intro Xt gh XI a w BF hI H;dsimp only [lca,bK] at H;refine oH ?_;refine mE 3 H ?_;clear H;intro a H;refine aC ?_;refine apm ((j+1,XI,Xt :: ds)) (by exact (H.dX (Pl:=[_,_,_,_,_]) (dN:=[_,_,_]) [4,2,0] (by decide) rfl).sub ⟨rfl,rfl,rfl,rfl,rfl,aL⟩) ?_ ?_
   ·(try dsimp only);exact ⟨by omega,Ko hj2 hnc (jf (by rw [bO] at hI;omega)),fun b o h=>BF b o (aaV b o (wW b o h))⟩
   first|omega|(dsimp only;omega)
  clear H;intro Xt x XI a w BF hI H;dsimp only [lca,bK] at H;refine cK ?_;refine (VD H 0 rfl ?_).1;clear H;intro a w H;dsimp only [List.eraseIdx_cons_succ,List.eraseIdx_cons_zero] at H;refine (VE (Lh:=[_,_,_,_]) _ H ?_).1;clear H;intro a w H;dsimp only [lca,bK] at H;refine (leave1 H results119 (.cons (Dp iD H rfl (H.hp.sw 3 rfl rfl)) .nil) ?_).1
  first
   | exact H.rt (aB vi (by rw [gZ,ak (by omega)]))
   | exact H.rt (aB vi (by rw [ah (by simpa using jk)] at heq;rw [gZ,ah (by omega),← heq,ak (by simpa using jk)]))
   | exact H.rt (aB vi (by rw [gZ,ah (by omega),ah (by rw [hok];decide),ak hbad]))
   | exact H.rt (aB vi (by rw [gZ,ah (by omega),ah (by rw [hok];decide),ah hbad,ak (wL hj2 hI)]))
   | exact H.rt (aB vi (by rw [gZ,ah (by omega),ah (by rw [hok];decide),ah hbad,ah (Bg (by omega) hnc)]))
 intro p64
 refine av 2 ?_;intro a H;refine aY iD 0 (vs:=[_]) _ H wn rfl rfl rfl rfl rfl rfl rfl rfl ?_;clear H;intro w H;dsimp only [List.set,setRow] at H;refine aC ?_;refine oH ?_;refine cK ?_;refine (VE (Lh:=[_,_]) _ H ?_).1;clear H;intro a w H;dsimp only [lca,bK] at H;refine (leave1 H results119 (.cons (Dp iD H rfl (H.hp.sw 0 rfl rfl)) .nil) ?_).1
 first
  | exact H.rt (aB vi (by rw [gZ,ak (by omega)]))
  | exact H.rt (aB vi (by rw [ah (by simpa using jk)] at heq;rw [gZ,ah (by omega),← heq,ak (by simpa using jk)]))
  | exact H.rt (aB vi (by rw [gZ,ah (by omega),ah (by rw [hok];decide),ak hbad]))
  | exact H.rt (aB vi (by rw [gZ,ah (by omega),ah (by rw [hok];decide),ah hbad,ak (wL hj2 hI)]))
  | exact H.rt (aB vi (by rw [gZ,ah (by omega),ah (by rw [hok];decide),ah hbad,ah (Bg (by omega) hnc)]))
instance xB:Ty prog 34 1 24 [.slice none 0 0] false:=⟨by kernel_rfl,by kernel_rfl⟩
theorem uE:prog.underlying 34=some (.slice 110):=by kernel_rfl
instance:lD prog 34 (.slice 110):=⟨uE⟩
instance wE:Ty prog 110 2 32 [.string ⟨#[]⟩,.string ⟨#[]⟩] true:=⟨by kernel_rfl,by kernel_rfl⟩
instance IE:dR prog 110 0 0:=⟨by kernel_rfl⟩
theorem SE:∀ args w,(callFunc 192 args).run prog w=.ok (.enter 192 args) w:=enters func192 rfl (by kernel_rfl)
instance ZO:dR prog 110 1 1:=⟨by kernel_rfl⟩
instance Ef:dR prog 36 0 0:=⟨by kernel_rfl⟩
theorem ahV:∀ args w,(callFunc 119 args).run prog w=.ok (.enter 119 args) w:=enters func119 rfl (by kernel_rfl)
instance Eh:dR prog 36 1 1:=⟨by kernel_rfl⟩
theorem ahW:∀ args w,(callFunc 120 args).run prog w=.ok (.enter 120 args) w:=enters func120 rfl (by kernel_rfl)
instance Oo:dR prog 36 2 2:=⟨by kernel_rfl⟩
theorem ahX:∀ args w,(callFunc 121 args).run prog w=.ok (.enter 121 args) w:=enters func121 rfl (by kernel_rfl)
instance Oq:dR prog 36 3 3:=⟨by kernel_rfl⟩
theorem ahY:∀ args w,(callFunc 122 args).run prog w=.ok (.enter 122 args) w:=enters func122 rfl (by kernel_rfl)
theorem aiS:∀ args w,(callFunc 191 args).run prog w=.ok (.enter 191 args) w:=enters func191 rfl (by kernel_rfl)
theorem aeK {G:GH} {l:List iT} {A:Option Addr} {n c k:Nat} (hv:au G (.sl 2 (l.map iT.dat)) (.slice A n c)) (hk:k < l.length):∃ b o,A=some ⟨b,o,none⟩∧(∀ j u,l[k].cells[j]?=some u→aH G b (o+k*2+j)=some u):=by
 obtain ⟨A',c',he,_,_,hg⟩:=hv.slice
 injection he with e1 e2 e3
 subst e1;obtain ⟨b,o,cs,h1,h2,h3,h4⟩:=hg k l[k].dat (by simp [hk]);have:=Xd h4;subst this;exact ⟨b,o,h1,h3⟩
def aeJ (k:Nat) (x:iT) (pn:ByteArray):Int:=dY [dh (!sP x.name) 13,dh (decide (0 < (k:Int)) && (x.name.toList == pn.toList)) 7,dh (decide (0 < (k:Int)) && Op.bytesLess x.name.toList pn.toList) 6,Dx x.value]
def JU (l:List iT) (k:Nat):Int:=match l[k]? with|some x=>aeJ k x ((l[k - 1]?.map iT.name).getD ⟨#[]⟩)|none=>0
theorem atV {G:GH} {bl:Nat} {l:List iT} {A:Option Addr} {n c:Nat} (hb:aH G bl 0=some (.slice A n c)) (hv:au G (.sl 2 (l.map iT.dat)) (.slice A n c)) (hl:l.length≤4294967296) (ht:∀ x∈l,x.name.size < 4611686018427387904∧x.value.size < 4611686018427387904):uH (.func (.func 191) #[] #[(aM bl 0)]) G l.length (JU l):=by
 intro k hk G1 w0 hm hG;refine jo (caps:=[(aM bl 0)]) aiS ?_;replace hb:=aG hm hb;replace hv:=hv.mono hm
 obtain rfl:n=l.length:=by have:=hv.len;simpa using this
 obtain ⟨b,o,rfl,hrow⟩:=aeK hv hk
 have hk1:k - 1 < l.length:=by omega
 obtain ⟨b',o',he',hrow'⟩:=aeK hv hk1
 injection he' with he'
 injection he' with e1 e2
 subst e1;subst e2;have hte:=ht _ (lH hk)
 have he:JU l k=aeJ k l[k] l[k - 1].name:=by unfold JU;rw [dZ hk,dZ hk1];rfl
 obtain ⟨x,hx⟩:∃ x,x=l[k]:=⟨_,rfl⟩;obtain ⟨y,hy⟩:∃ y,y=l[k - 1]:=⟨_,rfl⟩;rw [← hx] at hrow hte he;rw [← hy] at hrow' he;refine eN [(0,_),(1,_)] func191 rfl ntmps191 rfl rfl hG ?_;intro a H;refine kP H (SR fun _ K1=>aF K1 rfl (SQ fun _ K2=>?_));clear H K1;intro a H;have H:=H.sub (T':=[(0,_),(1,_)]) ⟨rfl,rfl,aL⟩
 by_cases c0:0 < (k:Int)
 ·skip;refine dI hmx [[],[],[0,1],[0,1,2],(ra 0 4),(ra 0 5),(ra 0 6),(ra 0 7),[],[8],(ra 0 10),(ra 0 11),(ra 0 11),(ra 0 13),(ra 0 14),(ra 0 15),(ra 0 11),(ra 0 11),(ra 0 11++[17]),(ra 0 11++[17,18]),(ra 0 11++ra 16 4),(ra 0 11++ra 16 5),(ra 0 11++ra 16 6),(ra 0 23),(ra 0 24),(ra 0 25),[],[26],(ra 0 28),(ra 0 29),(ra 0 29),(ra 0 31),(ra 0 32),(ra 0 33),(ra 0 29),(ra 0 29),(ra 0 29++[35]),(ra 0 29++[35,36]),(ra 0 29++ra 34 4),(ra 0 29++ra 34 5),(ra 0 29++ra 34 6),(ra 0 41),(ra 0 42),(ra 0 43),[],[],[44,45],[44,45,46],(ra 44 4),(ra 0 49),(ra 0 50),(ra 0 51),(ra 0 52)] [50,51,52] (by kernel_rfl) [_,_,_,_,_,.bool (sP x.name),_,vi (dh (!sP x.name) 13),_,_,_,_,_,_,_,_,_,_,vi ((max k 1:Nat):Int),vi ((k - 1:Nat):Int),_,_,_,.bool (x.name.toList == y.name.toList),.bool (decide (0 < (k:Int)) && (x.name.toList == y.name.toList)),vi (dh (decide (0 < (k:Int)) && (x.name.toList == y.name.toList)) 7),_,_,_,_,_,_,_,_,_,_,vi ((max k 1:Nat):Int),vi ((k - 1:Nat):Int),_,_,_,.bool (Op.bytesLess x.name.toList y.name.toList),.bool (decide (0 < (k:Int)) && Op.bytesLess x.name.toList y.name.toList),vi (dh (decide (0 < (k:Int)) && Op.bytesLess x.name.toList y.name.toList) 6),_,_,_,_,_,vi (Dx x.value)] H (aD (X0 rfl fun hG=>Rg xB rfl (aG hG hb)) (Z0 rfl (Rm rfl)) (Z2 0 4 1 5 rfl (Ri uE wE rfl rfl)) (Z1 2 6 rfl (Rf IE rfl)) (aD (X1 3 7 rfl fun hG=>Rg kR rfl (aG hG (hrow 0 _ rfl))) ?_ (Z1 5 9 rfl (Rn rfl)) ?_ (aD (Z0 rfl (Rm rfl)) (Z1 8 12 rfl (Rc rfl)) (Z1 9 13 rfl (Rm rfl)) (X1 10 14 rfl fun hG=>YR xB (aI c0) rfl (aG hG hb)) (aD (Z1 10 14 rfl (YM (aI c0) rfl)) (Z3 11 15 12 16 10 14 rfl (YI uE wE (aI c0) rfl rfl)) (Z2 13 17 10 14 rfl (YF IE (aI c0) rfl)) (X2 14 18 10 14 rfl fun hG=>YR kR (aI c0) rfl (aG hG (hrow 0 _ rfl))) (aD (X1 10 14 rfl fun hG=>YR xB (aI c0) rfl (aG hG hb)) (Z1 10 14 rfl (YM (aI c0) rfl)) ?_ ?_ (aD (Z3 16 20 19 23 10 14 rfl (YI uE wE (aI c0) rfl rfl)) (Z2 20 24 10 14 rfl (YF IE (aI c0) rfl)) (X2 21 25 10 14 rfl fun hG=>YR kR (aI c0) rfl (aG hG (hrow' 0 _ rfl))) ?_ (aD ?_ ?_ (Z0 rfl (Rm rfl)) (Z1 26 30 rfl (Rc rfl)) (aD (Z1 27 31 rfl (Rm rfl)) (X1 28 32 rfl fun hG=>YR xB (aI c0) rfl (aG hG hb)) (Z1 28 32 rfl (YM (aI c0) rfl)) (Z3 29 33 30 34 28 32 rfl (YI uE wE (aI c0) rfl rfl)) (aD (Z2 31 35 28 32 rfl (YF IE (aI c0) rfl)) (X2 32 36 28 32 rfl fun hG=>YR kR (aI c0) rfl (aG hG (hrow 0 _ rfl))) (X1 28 32 rfl fun hG=>YR xB (aI c0) rfl (aG hG hb)) (Z1 28 32 rfl (YM (aI c0) rfl)) (aD ?_ ?_ (Z3 34 38 37 41 28 32 rfl (YI uE wE (aI c0) rfl rfl)) (Z2 38 42 28 32 rfl (YF IE (aI c0) rfl)) (aD (X2 39 43 28 32 rfl fun hG=>YR kR (aI c0) rfl (aG hG (hrow' 0 _ rfl))) ?_ ?_ ?_ (aD (X0 rfl fun hG=>Rg xB rfl (aG hG hb)) (Z0 rfl (Rm rfl)) (Z2 44 48 45 49 rfl (Ri uE wE rfl rfl)) (Z1 46 50 rfl (Rf ZO rfl)) (aD (X1 47 51 rfl fun hG=>Rg kR rfl (aG hG (hrow 1 _ rfl))) ?_ (bS rfl) (bS rfl) (bM (bS rfl) cO)))))))))))))) ?_
  ·refine eu 4 8 rfl rfl fun _ a w G1 hG HT H fin=>?_;refine s_call SE H wn rfl (R9 _ _ H.ro x.name hte.1) rfl ?_;clear H;rintro v9 G9 a w ⟨rfl,-⟩ Ul H;exact fin H Ul (rfl)
  ·refine eu 6 10 rfl rfl fun _ a w G1 hG HT H fin=>?_;refine s_call jQ H wn rfl (jU _ _ H.ro _ 13) rfl ?_;clear H;rintro v11 tC a w ⟨rfl,-⟩ mF H;exact fin H mF (rfl)
  ·refine dL 17 21 10 14 rfl rfl fun _ a w G1 hG HT H fin=>?_;refine Qs H (wg H rfl rfl (aI c0)) rfl rfl rfl ?_;clear H;intro a H;exact fin H iJ (by show _=_;first|rfl|exact aB vi (by omega))
  ·refine dL 18 22 10 14 rfl rfl fun _ a w G1 hG HT H fin=>?_;refine og _ H (wg H rfl rfl (aI c0)) rfl rfl rfl (by omega) (by omega) rfl ?_;clear H;intro a H;exact fin H iJ (by show _=_;first|rfl|exact aB vi (by omega))
  ·refine yL 15 19 22 26 10 14 rfl rfl fun _ a w G1 hG HT H fin=>?_;refine BZ H (wg H rfl rfl (aI c0)) rfl rfl rfl ?_;clear H;intro a H;exact fin H iJ rfl
  ·refine dL 10 14 23 27 rfl rfl fun _ a w G1 hG HT H fin=>?_;refine kH H (Pt (aI c0) rfl ?_);clear H;intro a H;exact fin H iJ (dG (by first|(rw [iO c0,D6];done)|(rw [jf c0,xI];done)))
  ·refine eu 24 28 rfl rfl fun _ a w G1 hG HT H fin=>?_;refine s_call jQ H wn rfl (jU _ _ H.ro _ 7) rfl ?_;clear H;rintro v29 yI a w ⟨rfl,-⟩ Ua H;exact fin H Ua (rfl)
  ·refine dL 35 39 28 32 rfl rfl fun _ a w G1 hG HT H fin=>?_;refine Qs H (wg H rfl rfl (aI c0)) rfl rfl rfl ?_;clear H;intro a H;exact fin H iJ (by show _=_;first|rfl|exact aB vi (by omega))
  ·refine dL 36 40 28 32 rfl rfl fun _ a w G1 hG HT H fin=>?_;refine og _ H (wg H rfl rfl (aI c0)) rfl rfl rfl (by omega) (by omega) rfl ?_;clear H;intro a H;exact fin H iJ (by show _=_;first|rfl|exact aB vi (by omega))
  ·refine yL 33 37 40 44 28 32 rfl rfl fun _ a w G1 hG HT H fin=>?_;refine arW H (wg H rfl rfl (aI c0)) rfl rfl rfl ?_;clear H;intro a H;exact fin H iJ rfl
  ·refine dL 28 32 41 45 rfl rfl fun _ a w G1 hG HT H fin=>?_;refine kH H (Pt (aI c0) rfl ?_);clear H;intro a H;exact fin H iJ (dG (by first|(rw [iO c0,D6];done)|(rw [jf c0,xI];done)))
  ·refine eu 42 46 rfl rfl fun _ a w G1 hG HT H fin=>?_;refine s_call jQ H wn rfl (jU _ _ H.ro _ 6) rfl ?_;clear H;rintro v47 XD a w ⟨rfl,-⟩ Ug H;exact fin H Ug (rfl)
  ·refine eu 48 52 rfl rfl fun _ a w G1 hG HT H fin=>?_;refine s_call SA H wn rfl (WT _ _ H.ro x.value hte.2) rfl ?_;clear H;rintro v53 XG a w rfl KV H;exact fin H KV (rfl)
  clear H;intro a w G iY H hv;have H:=H.aN (hv 7 11 rfl rfl) rfl;have H:=H.aN (hv 25 29 rfl rfl) rfl;have H:=H.aN (hv 43 47 rfl rfl) rfl;have H:=H.aN (hv 49 53 rfl rfl) rfl;clear hv;refine gQ qz iD [_,_,_,_] [_,_,_,_] H wn rfl rfl rfl rfl rfl (by intro i q h;match i,h with|0,h=>exact h|1,h=>exact h|2,h=>exact h|3,h=>exact h|n+4,h=>simp at h) rfl rfl ?_;clear H;intro Bj a w aaB H;obtain ⟨G54,anr,Uy,H⟩:=H.eB;refine s_call rT H wn rfl (rU _ _ H.ro _ _ (Gy [dh (!sP x.name) 13,dh (decide (0 < (k:Int)) && (x.name.toList == y.name.toList)) 7,dh (decide (0 < (k:Int)) && Op.bytesLess x.name.toList y.name.toList) 6,Dx x.value] Uy (show 4≤maxLen by decide))) rfl ?_;clear H;rintro v55 _ a w ⟨rfl,rfl⟩ - H;refine kH H (Ra rfl ?_);clear H;intro a H;refine aC ⟨rfl,?_⟩;refine K2 _ _ ?_;clear K2;refine lr H results191 rfl ?_;exact H.rt (by rw [he];rfl)
 skip;refine dI hmx [[],[],[0,1],[0,1,2],(ra 0 4),(ra 0 5),(ra 0 6),(ra 0 7),[],[8],(ra 0 10),(ra 0 11),(ra 0 11),(ra 0 13),(ra 0 14),(ra 0 15),(ra 0 11),(ra 0 11),(ra 0 11++[17]),(ra 0 11++[17,18]),(ra 0 11++ra 16 4),(ra 0 11++ra 16 5),(ra 0 11++ra 16 6),(ra 0 23),(ra 0 24),(ra 0 25),[],[26],(ra 0 28),(ra 0 29),(ra 0 29),(ra 0 31),(ra 0 32),(ra 0 33),(ra 0 29),(ra 0 29),(ra 0 29++[35]),(ra 0 29++[35,36]),(ra 0 29++ra 34 4),(ra 0 29++ra 34 5),(ra 0 29++ra 34 6),(ra 0 41),(ra 0 42),(ra 0 43),[],[],[44,45],[44,45,46],(ra 44 4),(ra 0 49),(ra 0 50),(ra 0 51),(ra 0 52)] [50,51,52] (by kernel_rfl) [_,_,_,_,_,.bool (sP x.name),_,vi (dh (!sP x.name) 13),_,_,_,undef,undef,undef,undef,undef,undef,undef,undef,undef,undef,undef,undef,undef,.bool (decide (0 < (k:Int)) && (x.name.toList == y.name.toList)),vi (dh (decide (0 < (k:Int)) && (x.name.toList == y.name.toList)) 7),_,_,_,undef,undef,undef,undef,undef,undef,undef,undef,undef,undef,undef,undef,undef,.bool (decide (0 < (k:Int)) && Op.bytesLess x.name.toList y.name.toList),vi (dh (decide (0 < (k:Int)) && Op.bytesLess x.name.toList y.name.toList) 6),_,_,_,_,_,vi (Dx x.value)] H (aD (X0 rfl fun hG=>Rg xB rfl (aG hG hb)) (Z0 rfl (Rm rfl)) (Z2 0 4 1 5 rfl (Ri uE wE rfl rfl)) (Z1 2 6 rfl (Rf IE rfl)) (aD (X1 3 7 rfl fun hG=>Rg kR rfl (aG hG (hrow 0 _ rfl))) ?_ (Z1 5 9 rfl (Rn rfl)) ?_ (aD (Z0 rfl (Rm rfl)) (Z1 8 12 rfl (Rc rfl)) (Z1 9 13 rfl (Rm rfl)) (aW 10 (aX c0) rfl rfl) (aD (aW 10 (aX c0) rfl rfl) (aW 10 (aX c0) rfl rfl) (aW 10 (aX c0) rfl rfl) (aW 10 (aX c0) rfl rfl) (aD (aW 10 (aX c0) rfl rfl) (aW 10 (aX c0) rfl rfl) (aW 10 (aX c0) rfl rfl) (aW 10 (aX c0) rfl rfl) (aD (aW 10 (aX c0) rfl rfl) (aW 10 (aX c0) rfl rfl) (aW 10 (aX c0) rfl rfl) (aW 10 (aX c0) rfl rfl) (aD ?_ ?_ (Z0 rfl (Rm rfl)) (Z1 26 30 rfl (Rc rfl)) (aD (Z1 27 31 rfl (Rm rfl)) (aW 28 (aX c0) rfl rfl) (aW 28 (aX c0) rfl rfl) (aW 28 (aX c0) rfl rfl) (aD (aW 28 (aX c0) rfl rfl) (aW 28 (aX c0) rfl rfl) (aW 28 (aX c0) rfl rfl) (aW 28 (aX c0) rfl rfl) (aD (aW 28 (aX c0) rfl rfl) (aW 28 (aX c0) rfl rfl) (aW 28 (aX c0) rfl rfl) (aW 28 (aX c0) rfl rfl) (aD (aW 28 (aX c0) rfl rfl) (aW 28 (aX c0) rfl rfl) ?_ ?_ (aD (X0 rfl fun hG=>Rg xB rfl (aG hG hb)) (Z0 rfl (Rm rfl)) (Z2 44 48 45 49 rfl (Ri uE wE rfl rfl)) (Z1 46 50 rfl (Rf ZO rfl)) (aD (X1 47 51 rfl fun hG=>Rg kR rfl (aG hG (hrow 1 _ rfl))) ?_ (bS rfl) (bS rfl) (bM (bS rfl) cO)))))))))))))) ?_
 ·refine eu 4 8 rfl rfl fun _ a w G1 hG HT H fin=>?_;refine s_call SE H wn rfl (R9 _ _ H.ro x.name hte.1) rfl ?_;clear H;rintro v9 G9 a w ⟨rfl,-⟩ Ul H;exact fin H Ul (rfl)
 ·refine eu 6 10 rfl rfl fun _ a w G1 hG HT H fin=>?_;refine s_call jQ H wn rfl (jU _ _ H.ro _ 13) rfl ?_;clear H;rintro v11 tC a w ⟨rfl,-⟩ mF H;exact fin H mF (rfl)
 ·refine dL 10 14 23 27 rfl rfl fun _ a w G1 hG HT H fin=>?_;refine kH H (Pf (aX c0) rfl ?_);clear H;intro a H;exact fin H iJ (dG (by first|(rw [iO c0,D6];done)|(rw [jf c0,xI];done)))
 ·refine eu 24 28 rfl rfl fun _ a w G1 hG HT H fin=>?_;refine s_call jQ H wn rfl (jU _ _ H.ro _ 7) rfl ?_;clear H;rintro v29 yI a w ⟨rfl,-⟩ Ua H;exact fin H Ua (rfl)
 ·refine dL 28 32 41 45 rfl rfl fun _ a w G1 hG HT H fin=>?_;refine kH H (Pf (aX c0) rfl ?_);clear H;intro a H;exact fin H iJ (dG (by first|(rw [iO c0,D6];done)|(rw [jf c0,xI];done)))
 ·refine eu 42 46 rfl rfl fun _ a w G1 hG HT H fin=>?_;refine s_call jQ H wn rfl (jU _ _ H.ro _ 6) rfl ?_;clear H;rintro v47 XD a w ⟨rfl,-⟩ Ug H;exact fin H Ug (rfl)
 ·refine eu 48 52 rfl rfl fun _ a w G1 hG HT H fin=>?_;refine s_call SA H wn rfl (WT _ _ H.ro x.value hte.2) rfl ?_;clear H;rintro v53 XG a w rfl KV H;exact fin H KV (rfl)
 clear H;intro a w G iY H hv;have H:=H.aN (hv 7 11 rfl rfl) rfl;have H:=H.aN (hv 25 29 rfl rfl) rfl;have H:=H.aN (hv 43 47 rfl rfl) rfl;have H:=H.aN (hv 49 53 rfl rfl) rfl;clear hv;refine gQ qz iD [_,_,_,_] [_,_,_,_] H wn rfl rfl rfl rfl rfl (by intro i q h;match i,h with|0,h=>exact h|1,h=>exact h|2,h=>exact h|3,h=>exact h|n+4,h=>simp at h) rfl rfl ?_;clear H;intro Bj a w aaB H;obtain ⟨G54,anr,Uy,H⟩:=H.eB;refine s_call rT H wn rfl (rU _ _ H.ro _ _ (Gy [dh (!sP x.name) 13,dh (decide (0 < (k:Int)) && (x.name.toList == y.name.toList)) 7,dh (decide (0 < (k:Int)) && Op.bytesLess x.name.toList y.name.toList) 6,Dx x.value] Uy (show 4≤maxLen by decide))) rfl ?_;clear H;rintro v55 _ a w ⟨rfl,rfl⟩ - H;refine kH H (Ra rfl ?_);clear H;intro a H;refine aC ⟨rfl,?_⟩;refine K2 _ _ ?_;clear K2;refine lr H results191 rfl ?_;exact H.rt (by rw [he];rfl)
def NS (l:List iT):Int:=dY [dh (decide (128 < (l.length:Int))) 9,kr (JU l) (min l.length 128)]
theorem agG (G:GH) (w0:World) (hG:Hold G w0) (l:List iT) (v:aj) (hv:au G (.sl 2 (l.map iT.dat)) v) (hl:l.length≤4294967296) (ht:∀ x∈l,x.name.size < 4611686018427387904∧x.value.size < 4611686018427387904) :
  Calls prog 122 #[v] w0 (bB w0 G fun u G'=>u=vi (NS l)):=by
 obtain ⟨A,c,rfl,hc1,hc2,-⟩:=hv.slice;rw [bO] at *;refine eN [(0,_)] func122 rfl ntmps122 rfl rfl hG ?_;intro a H;refine fK (fun _ K1=>?_);refine dW (cs:=[_]) H wn rfl rfl rfl ?_;clear H;intro b1 a w hb1 H;refine kH H (aF K1 rfl (SQ fun _ K2=>?_));clear H K1;intro a H;have H:=H.sub (T':=[(1,_)]) ⟨rfl,aL⟩;obtain ⟨Ga,hma,hb1',H⟩:=H.eB
 have hbl:aH Ga b1 0=some (.slice A l.length c):=by unfold aH;rw [hb1'];rfl
 have hcb:=atV hbl (hv.mono hma) hl ht;refine dI hmx [[],[0],[0,1],[0,1,2],[],[4],[4,5],[],(ra 0 8),(ra 0 9),(ra 0 10),(ra 0 11)] [9,10,11] (by kernel_rfl) [_,_,_,vi (dh (decide (128 < (l.length:Int))) 9),_,_,vi ((min l.length 128:Nat):Int),.func (.func 191) #[] #[(aM b1 0)],vi (kr (JU l) (min l.length 128))] H (aD (X0 rfl fun hG=>Rg xB rfl (aG hG hbl)) (Z1 0 3 rfl (Rl uE rfl)) (Z1 1 4 rfl (Rc rfl)) ?_ (aD (X0 rfl fun hG=>Rg xB rfl (aG hG hbl)) (Z1 4 7 rfl (Rl uE rfl)) ?_ ?_ (aD ?_ (bS rfl) (bS rfl) (bS rfl) cO))) ?_
 ·refine eu 2 5 rfl rfl fun _ a w G1 hG HT H fin=>?_;refine s_call jQ H wn rfl (jU _ _ H.ro _ 9) rfl ?_;clear H;rintro v6 G6 a w ⟨rfl,-⟩ gM H;exact fin H gM (rfl)
 ·refine eu 5 8 rfl rfl fun _ a w G1 hG HT H fin=>?_;refine Qt H wn rfl rfl rfl ?_;clear H;intro a H;exact fin H iJ (aB vi (by omega))
 ·refine Co rfl fun _ a w G1 hG HT H fin=>?_;refine qy H wn rfl rfl ?_;clear H;intro a H;exact fin H iJ rfl
 ·refine dL 6 9 7 10 rfl rfl fun _ a w G1 hG HT H fin=>?_;refine s_call Iu H wn rfl (Km _ _ H.ro (min l.length 128) (JU l) _ (by omega) ((hcb.mono hG).le (Nat.min_le_left _ _))) rfl ?_;clear H;rintro v11 tC a w rfl mF H;exact fin H mF (rfl)
 clear H;intro a w G iY H hv;have H:=H.aN (hv 3 6 rfl rfl) rfl;have H:=H.aN (hv 8 11 rfl rfl) rfl;clear hv;refine gQ qz iD [_,_] [_,_] H wn rfl rfl rfl rfl rfl (by intro i q h;match i,h with|0,h=>exact h|1,h=>exact h|n+2,h=>simp at h) rfl rfl ?_;clear H;intro b12 a w FR H;obtain ⟨Cm,CW,FT,H⟩:=H.eB;refine s_call rT H wn rfl (rU _ _ H.ro _ _ (zo FT)) rfl ?_;clear H;rintro v13 _ a w ⟨rfl,rfl⟩ - H;refine kH H (Ra rfl ?_);clear H;intro a H;refine aC ⟨rfl,?_⟩;refine K2 _ _ ?_;clear K2;refine lr H results122 rfl ?_;exact H.rt rfl
structure Ba where
 styles:List bU
 lists:List eD
 comments:List fM
 vars:List iT
structure zH (G:GH) (s:Ba) (a b c d:aj):Prop where
 st:au G (.sl 6 (s.styles.map bU.dat)) a
 li:au G (.sl 2 (s.lists.map eD.dat)) b
 cm:au G (.sl 6 (s.comments.map fM.dat)) c
 va:au G (.sl 2 (s.vars.map iT.dat)) d
structure RD (s:Ba):Prop where
 sn:∀ x∈s.styles,x.name.size≤4611686018427387904
 ln:s.lists.length≤4294967296
 lt:∀ x∈s.lists,∀ y∈x.levels,y.yC.size < 4611686018427387904
 cn:s.comments.length≤4294967296
 ct:∀ x∈s.comments,x.author.size < 4611686018427387904∧x.text.size < 4611686018427387904
 vn:s.vars.length≤4294967296
 vt:∀ x∈s.vars,x.name.size < 4611686018427387904∧x.value.size < 4611686018427387904
 pl:∀ x∈s.styles,x.props.length≤4294967296
 ll:∀ x∈s.lists,x.levels.length≤4294967296
def Kw (s:Ba):Int:=dY [gZ s.styles,Kv s.lists,NR s.comments,NS s.vars]
theorem agF (G:GH) (w0:World) (hG:Hold G w0) (s:Ba) (a b c d:aj) (hR:zH G s a b c d) (hz:RD s) :
  Calls prog 67 #[.agg #[a,b,c,d]] w0 (bB w0 G fun u G'=>u=vi (Kw s)):=by
 obtain ⟨sA,sn,sc,rfl⟩:=hR.st.form;obtain ⟨lA,ln,lc,rfl⟩:=hR.li.form;obtain ⟨cA,cn,cc,rfl⟩:=hR.cm.form;obtain ⟨vA,vn,vc,rfl⟩:=hR.va.form;refine eN [(0,_)] func67 rfl ntmps67 rfl rfl hG ?_;intro a H;refine fK (fun _ K1=>?_);refine dW (cs:=[_,_,_,_]) H wn rfl rfl rfl ?_;clear H;intro b1 a w hb1 H;refine kH H (aF K1 rfl (SQ fun _ K2=>?_));clear H K1;intro a H;have H:=H.sub (T':=[(1,_)]) ⟨rfl,aL⟩;obtain ⟨Ga,hma,hb1',H⟩:=H.eB
 have hc0:aH Ga b1 0=some (.slice sA sn sc):=by unfold aH;rw [hb1'];rfl
 have hc1:aH Ga b1 1=some (.slice lA ln lc):=by unfold aH;rw [hb1'];rfl
 have hc2:aH Ga b1 2=some (.slice cA cn cc):=by unfold aH;rw [hb1'];rfl
 have hc3:aH Ga b1 3=some (.slice vA vn vc):=by unfold aH;rw [hb1'];rfl
 refine dI hmx [[],[0],[0,1],[],[3],(ra 0 5),[],[6],(ra 0 8),[],[9],(ra 0 11),(ra 0 12),(ra 0 13),(ra 0 14)] [12,13,14] (by kernel_rfl) [_,_,vi (gZ s.styles),_,_,vi (Kv s.lists),_,_,vi (NR s.comments),_,_,vi (NS s.vars)] H (aD (Z0 rfl (Rf Ef rfl)) (X1 0 3 rfl fun hG=>Rg Au rfl (aG hG hc0)) ?_ (Z0 rfl (Rf Eh rfl)) (aD (X1 3 6 rfl fun hG=>Rg zq rfl (aG hG hc1)) ?_ (Z0 rfl (Rf Oo rfl)) (X1 6 9 rfl fun hG=>Rg Dz rfl (aG hG hc2)) (aD ?_ (Z0 rfl (Rf Oq rfl)) (X1 9 12 rfl fun hG=>Rg xB rfl (aG hG hc3)) ?_ (bM (bS rfl) (bM (bS rfl) (bM (bS rfl) cO)))))) ?_
 ·refine eu 1 4 rfl rfl fun _ a w G1 hG HT H fin=>?_;refine s_call ahV H wn rfl (agH _ _ H.ro s.styles _ ((hR.st.mono hma).mono hG) hz.sn) rfl ?_;clear H;rintro v5 G5 a w rfl lZ H;exact fin H lZ (rfl)
 ·refine eu 4 7 rfl rfl fun _ a w G1 hG HT H fin=>?_;refine s_call ahW H wn rfl (agD _ _ H.ro s.lists _ ((hR.li.mono hma).mono hG) hz.ln hz.lt) rfl ?_;clear H;rintro v8 G8 a w rfl oM H;exact fin H oM (rfl)
 ·refine eu 7 10 rfl rfl fun _ a w G1 hG HT H fin=>?_;refine s_call ahX H wn rfl (agB _ _ H.ro s.comments _ ((hR.cm.mono hma).mono hG) hz.cn hz.ct) rfl ?_;clear H;rintro v11 tC a w rfl mF H;exact fin H mF (rfl)
 ·refine eu 10 13 rfl rfl fun _ a w G1 hG HT H fin=>?_;refine s_call ahY H wn rfl (agG _ _ H.ro s.vars _ ((hR.va.mono hma).mono hG) hz.vn hz.vt) rfl ?_;clear H;rintro v14 AJ a w rfl xP H;exact fin H xP (rfl)
 clear H;intro a w G iY H hv;have H:=H.aN (hv 2 5 rfl rfl) rfl;have H:=H.aN (hv 5 8 rfl rfl) rfl;have H:=H.aN (hv 8 11 rfl rfl) rfl;have H:=H.aN (hv 11 14 rfl rfl) rfl;clear hv;refine gQ qz iD [_,_,_,_] [_,_,_,_] H wn rfl rfl rfl rfl rfl (by intro i q h;match i,h with|0,h=>exact h|1,h=>exact h|2,h=>exact h|3,h=>exact h|n+4,h=>simp at h) rfl rfl ?_;clear H;intro b15 a w amn H;obtain ⟨Cn,BD,amo,H⟩:=H.eB;refine s_call rT H wn rfl (rU _ _ H.ro _ _ (Gy [gZ s.styles,Kv s.lists,NR s.comments,NS s.vars] amo (show 4≤maxLen by decide))) rfl ?_;clear H;rintro v16 _ a w ⟨rfl,rfl⟩ - H;refine kH H (Ra rfl ?_);clear H;intro a H;refine aC ⟨rfl,?_⟩;refine K2 _ _ ?_;clear K2;refine lr H results67 rfl ?_;exact H.rt rfl
section
def iP:Nat→List (Int × aj)→List MapEntry
 | _,[]=>[]
 | i,(k,v) :: r=>⟨.int .i64 k,v,i⟩ :: iP (i+1) r
theorem acu (x:Int × aj):∀ (i:Nat) (l:List (Int × aj)),iP i (l++[x])=iP i l++[⟨.int .i64 x.1,x.2,i+l.length⟩]
 | _,[]=>rfl
 | i,k :: r=>by
  rw [oq,iP,acu x (i+1) r,iP,oq,kU,show i+1+r.length=i+(r.length+1) by omega]
def uX (x:Int):List (Int × aj)→Option aj
 | []=>none
 | (k,v) :: r=>if k=x then some v else uX x r
theorem Mj {x:Int}:∀ {l:List (Int × aj)},x∉l.map (·.1)→uX x l=none
 | [],_=>rfl
 | (k,v) :: r,h=>by
  rw [uX,ah (fun e=>h (by simp [e])),Mj (fun hm=>h (fJ _ hm))]
theorem Tt (x:Int):∀ (i j:Nat) (l:List (Int × aj)),∃ an,Instr.findNow (.int .i64) (.int .i64 x) (iP i l) j=some an∧an.map (·.2)=uX x l
 | _,_,[]=>⟨none,rfl,rfl⟩
 | i,j,(k,v) :: r=>by
  obtain ⟨an,h1,h2⟩:=Tt x (i+1) (j+1) r
  by_cases e:k=x
  ·subst e
   exact ⟨some (j,v),by simp only [iP,Instr.findNow,Instr.sameNow,ak,beq_self_eq_true],by rw [uX,ak rfl];rfl⟩
  ·have hb:(x == k)=false:=by simp;exact fun h=>e h.symm
   exact ⟨an,by simpa only [iP,Instr.findNow,Instr.sameNow,ak,hb] using h1,by rw [uX,ah e];exact h2⟩
abbrev eZ (l:List (Int × aj)):Obj:=.map (iP 0 l).toArray l.length
section
variable {N:Nat} {D:List Deferred} {w0:World} {F:Nat→Prop} {G0 G:GH} {L:OL} {T:List (Nat × aj)}
variable {r:Option Nat} {P:Program} {ops:Array Oper} {Q:Exit→Act→World→Prop} {rest:List Oper} {a:Act} {w:World}
variable {d:Nat} {ty:TypeId} {pos:String} {aO:Array Edge} {g:Option (Nat × Bool)}
theorem Aq {t kt et:TypeId} {x y:Operand} {b:Nat} {l:List (Int × aj)} {ky:Int} {zv:aj} (hm:P.underlying t=some (.map kt et)) (hk:P.underlying kt=some (.int .i64)) (hz:(P.info? et).map (fun i=>i.zero)=some (some zv)) (H:St N D w0 F G0 G L T a w)
  (hw:Region.wanted ⟨some d,.lookup t x y false,ty,pos,aO,g⟩ (yielded ops a.tmps)=true) (hx:ev T x=some (.map (some b))) (hy:ev T y=some (.int .i64 ky)) (hb:w.heap[b]?=some (eZ l)) (hd:Nat.blt d N=true)
  (k:∀ a',St N D w0 F G0 G L ((d,(uX ky l).getD zv) :: T) a' w→WL r P ops Q rest a' w):WL r P ops Q (⟨some d,.lookup t x y false,ty,pos,aO,g⟩ :: rest) a w:=by
 obtain ⟨an,hf,han⟩:=Tt ky 0 0 l
 obtain ⟨inf,hi1,hi2⟩:=qF.1 hz
 refine fF (v:=(uX ky l).getD zv) (w':=w) hw rfl ?_ (k _ (H.put hd _ H.hp))
 have hkey:MapKept.IsKey (.int .i64) (.int .i64 ky):=by trivial
 have hf2:Instr.findNow (.int .i64) (.int .i64 ky) (iP 0 l).toArray.toList 0=some an:=by simpa using hf
 replace hb:w.heap[b]?=some (.map (iP 0 l).toArray l.length):=hb
 generalize (iP 0 l).toArray=es at hb hf2
 have h1:=MapKept.run_checkKey (P:=P) (w:=w) hk hkey es.isEmpty 9999
 have h2:=MapKept.run_findKey (P:=P) (w:=w) hk hf2
 rw [← han]
 cases an with
 | none=>simp [execOp,Instr.lookup,H.ev hx,H.ev hy,dV,nG hm,MapKept.run_getObj_map hb,h1,h2,Result.andThen,zeroValue,EP hi1,hi2]
 | some q=>simp [execOp,Instr.lookup,H.ev hx,H.ev hy,dV,nG hm,MapKept.run_getObj_map hb,h1,h2,Result.andThen]
theorem MI {t kt et:TypeId} {x y z:Operand} {b i:Nat} {l:List (Int × aj)} {ky:Int} {v:aj} (hm:P.underlying t=some (.map kt et)) (hk:P.underlying kt=some (.int .i64)) (H:St N D w0 F G0 G L T a w)
  (hw:Region.wanted ⟨none,.mapUpdate t x y z,ty,pos,aO,g⟩ (yielded ops a.tmps)=true) (hx:ev T x=some (.map (some b))) (hy:ev T y=some (.int .i64 ky)) (hzv:ev T z=some v) (hi:L[i]?=some (b,eZ l)) (hn:uX ky l=none)
  (k:∀ w',St N D w0 F G0 G (L.set i (b,eZ (l++[(ky,v)]))) T a w'→WL r P ops Q rest a w'):WL r P ops Q (⟨none,.mapUpdate t x y z,ty,pos,aO,g⟩ :: rest) a w:=by
 obtain ⟨an,hf,han⟩:=Tt ky 0 0 l
 have hnone:an=none:=by
  rw [hn] at han
  cases an with
  | none=>rfl
  | some q=>cases han
 subst hnone
 refine adP (i:=i) hm hk H hw hx hy hzv hi (by trivial) (by simpa using hf) ?_
 intro w' H'
 have e:(iP 0 l).toArray.push ⟨.int .i64 ky,v,l.length⟩=(iP 0 (l++[(ky,v)])).toArray:=by
  rw [acu,List.push_toArray,gD]
 refine k w' ?_
 rw [e] at H'
 rw [eZ,iM]
 exact H'
end
end
end Go.Proofs.YtdiflmikikiedaaGreat
