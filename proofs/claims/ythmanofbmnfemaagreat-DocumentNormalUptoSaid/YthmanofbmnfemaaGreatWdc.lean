/-
  What the claim stands on, part 3: Lsc Dm Dl Lfl Dv Lpc Scn By Lps Lcl Dst Sty Mk Stz Dsc Mi Ro Ri Chn Chk Dsv Mq Nck.
-/
import Derived.Test.YthmanofbmnfemaaGreatWdb
import Derived.Lib.ConvBytes
import Derived.Laws.MakeOwn
namespace Go.Proofs.YthmanofbmnfemaaGreat
open Go.Proofs.Tryz
set_option maxRecDepth 20000
set_option maxHeartbeats 4000000
section
open Go.RowKit
theorem aqF:liesAt prog prog.depth 289 (7 / prog.cellsOf 289) 2 287 1=true:=by kernel_rfl
theorem akM:∀ args w,(callFunc 241 args).run prog w=.ok (.enter 241 args) w:=enters func241 rfl (by kernel_rfl)
instance X5:Ty prog 5 1 1 [.int .u8 0] false:=⟨by kernel_rfl,by kernel_rfl⟩
abbrev ig (b:Nat) (s:ByteArray) (i:Int) (p v q:ak) (pl e:Int):Nat × Obj:=(b,.cells #[.string s,vi i,p,v,q,vi pl,vi e] 289 (0,0))
theorem atU (G:GH) (L:OL) (w0:World) (b:Nat) (s:ByteArray) (i:Int) (A:Option Addr) (n c:Nat) (B:Option Addr) (m d:Nat) (pl e:Int) (hO:fM G (ig b s i (.pointer none) (.slice A n c) (.slice B m d) pl e :: L) w0) :
  Calls prog 241 #[(aK b 2)] w0 (fB w0 G (ig b s i (.pointer none) (.slice A n c) (.slice B m d) pl e :: L) fun u G' L'=>L'=ig b s i (aK b 2) (.slice A n c) (.slice B m d) pl e :: L∧G'=G):=by
 refine iM (N:=20) (T:=[(0,_)]) func241 rfl ntmps241 rfl rfl hO ?_;refine aj 5 ?_;intro a H;refine aeZ Kw H wn rfl rfl ?_;clear H;refine goC 1 ?_ ?_
 ·intro h6
  refine aj 3 ?_;intro a H;refine atM Kw Yd XJ H wn rfl 0 rfl rfl rfl ?_;clear H;intro a H;refine atE (xs:=[.tmp 9]) (arG _) H wn rfl rfl ?_;clear H;intro a H;refine atB Yd Kw XJ H wn rfl 0 rfl aqF rfl ?_;clear H;refine aj 2 ?_;intro a H;refine bq afC 0 (vs:=[_]) _ H wn rfl rfl rfl rfl rfl rfl rfl rfl ?_;clear H;intro w H;dsimp only [List.set,setRow] at H;refine aI ?_;refine (leave0 H results241 ?_).2;exact H.hp.dO ⟨rfl,rfl⟩
 intro h6
 intro a H;exact absurd h6 (by decide)
theorem atV (G:GH) (L:OL) (w0:World) (b:Nat) (s:ByteArray) (i:Int) (A:Option Addr) (n c:Nat) (B:Option Addr) (m d:Nat) (pl e:Int) (hO:fM G (ig b s i (aK b 2) (.slice A n c) (.slice B m d) pl e :: L) w0) :
  Calls prog 241 #[(aK b 2)] w0 (fB w0 G (ig b s i (aK b 2) (.slice A n c) (.slice B m d) pl e :: L) fun u G' L'=>L'=ig b s i (aK b 2) (.slice A n c) (.slice B m d) pl e :: L∧G'=G):=by
 refine iM (N:=20) (T:=[(0,_)]) func241 rfl ntmps241 rfl rfl hO ?_;refine aj 5 ?_;intro a H;refine aeZ Kw H wn rfl rfl ?_;clear H;refine goC 1 ?_ ?_
 ·intro h6
  intro a H;exact absurd h6 (by simp)
 intro h6
 refine aj 6 ?_;intro a H;refine atD Kw XJ H wn rfl rfl rfl ?_;clear H;refine goC 1 ?_ ?_
 ·intro h19
  intro a H;exact absurd h19 (by decide)
 intro h19
 intro a H;refine iE ?_;refine (leave0 H results241 ?_).2;exact H.hp.dO ⟨rfl,rfl⟩
theorem atW (G:GH) (L:OL) (w0:World) (b:Nat) (s:ByteArray) (i:Int) (p:ak) (A:Option Addr) (n c:Nat) (B:Option Addr) (m d:Nat) (pl e:Int) (hp:p=.pointer none∨p=(aK b 2)) (hO:fM G (ig b s i p (.slice A n c) (.slice B m d) pl e :: L) w0) :
  Calls prog 241 #[(aK b 2)] w0 (fB w0 G (ig b s i p (.slice A n c) (.slice B m d) pl e :: L) fun u G' L'=>L'=ig b s i (aK b 2) (.slice A n c) (.slice B m d) pl e :: L∧G'=G):=by
 rcases hp with rfl|rfl
 ·exact atU G L w0 b s i A n c B m d pl e hO
 exact atV G L w0 b s i A n c B m d pl e hO
theorem agm (G:GH) (Lp Lo:OL) (w0:World) (b:Nat) (s:ByteArray) (i:Int) (p v:ak) (B:Option Addr) (m d:Nat) (pl e:Int) (n:Nat) (xs:List ak) (c:Int) (hp:p=.pointer none∨p=(aK b 2)) (hO:fM G (ig b s i p v (.slice B m d) pl e :: (Lp++Lo)) w0) (hrow:cB 5 1 v n xs Lo) (hn:n≤4294967296) :
  Calls prog 235 #[(aK b 2),.int .u8 c] w0 (fB w0 G (ig b s i p v (.slice B m d) pl e :: (Lp++Lo)) fun u G' L'=>∃ v' jo,L'=ig b s i (aK b 2) v' (.slice B m d) pl e :: (Lp++jo)∧cB 5 1 v' (n+1) (xs++[.int .u8 c]) jo∧G'=G):=by
 have hml:maxLen=9223372036854775807:=rfl;obtain ⟨A,c0,rfl,-,-⟩:=hrow.shape;obtain ⟨Lt,qC⟩:∃ x,x=Lp++Lo:=⟨_,rfl⟩;rw [← qC] at hO ⊢;refine iM (N:=17) (T:=[(0,_),(1,_)]) func235 rfl ntmps235 rfl rfl hO ?_;refine aj 5 ?_;intro a H;refine fu akM (Li:=[]) (L:=ig b s i p _ (.slice B m d) pl e :: Lt) H wn rfl (atW _ _ _ b s i p A n c0 B m d pl e hp (Hp.owns (Li:=[]) H.hp)) rfl ?_;clear H;rintro v6 _ L6 a w ⟨rfl,rfl⟩ Cv H;dsimp only [List.nil_append] at H;refine aH 8 H ?_;clear H;intro a H;refine iy NR X5 [_] [_] H wn rfl rfl rfl rfl rfl (by intro i q h;match i,h with|0,h=>exact h|n+1,h=>simp at h) rfl rfl ?_;clear H;intro b13 a w JE H;subst qC;have H:=St.un (A:=[_,_]) (B:=Lp) (C:=Lo) H;refine oK (Li:=[_,_]++Lp) (Lo:=Lo) (news:=[.int .u8 c]) NR X5 rfl rfl H wn rfl rfl hrow rfl (H.hp.cO 0 rfl rfl) rfl (by omega) (by omega) rfl ?_;clear H;intro v14 agI a w M0 H;obtain ⟨Yu,c14,rfl,-,-⟩:=M0.shape;have H:=H.assoc;dsimp only [lca,aQ] at H;refine aH 2 H ?_;clear H;intro a H;refine bq RQ 1 (vs:=[_]) _ H wn rfl rfl rfl rfl rfl rfl rfl rfl ?_;clear H;intro w H;dsimp only [List.set,setRow] at H;refine aH 4 H ?_;clear H;intro a H;refine lr H results235 rfl ?_;exact H.hp.bU (L':=ig b s i _ _ _ pl e :: (Lp++agI)) (BO _ _) ⟨_,_,rfl,M0,rfl⟩
theorem aup (G:GH) (L:OL) (w0:World) (b:Nat) (s:ByteArray) (i:Int) (p:ak) (A:Option Addr) (n c:Nat) (B:Option Addr) (m d:Nat) (pl e:Int) (hO:fM G (ig b s i p (.slice A n c) (.slice B m d) pl e :: L) w0) :
  Calls prog 242 #[(aK b 2)] w0 (fB w0 G (ig b s i p (.slice A n c) (.slice B m d) pl e :: L) fun u G' L'=>u=vi n∧L'=ig b s i p (.slice A n c) (.slice B m d) pl e :: L∧G'=G):=by
 refine iM (N:=8) (T:=[(0,_)]) func242 rfl ntmps242 rfl rfl hO ?_;refine aj 11 ?_;intro a H;refine lr H results242 rfl ?_;exact H.hp.dO ⟨rfl,rfl,rfl⟩
theorem auG (G:GH) (L:OL) (w0:World) (b:Nat) (s:ByteArray) (i:Int) (p:ak) (A:Option Addr) (n c:Nat) (B:Option Addr) (m d:Nat) (pl e:Int) (hO:fM G (ig b s i p (.slice A n c) (.slice B m d) pl e :: L) w0) :
  Calls prog 244 #[(aK b 2)] w0 (fB w0 G (ig b s i p (.slice A n c) (.slice B m d) pl e :: L) fun u G' L'=>L'=ig b s i (.pointer none) (.slice none 0 0) (.slice B m d) pl e :: L∧G'=G):=by
 refine iM (N:=8) (T:=[(0,_)]) func244 rfl ntmps244 rfl rfl hO ?_;refine aj 4 ?_;intro a H;refine bq afC 0 (vs:=[_]) _ H wn rfl rfl rfl rfl rfl rfl rfl rfl ?_;clear H;intro w H;dsimp only [List.set,setRow] at H;refine aH 5 H ?_;clear H;intro a H;refine bq RQ 0 (vs:=[_]) _ H wn rfl rfl rfl rfl rfl rfl rfl rfl ?_;clear H;intro w H;dsimp only [List.set,setRow] at H;refine aI ?_;refine (leave0 H results244 ?_).2;exact H.hp.dO ⟨rfl,rfl⟩
theorem auJ (G:GH) (Lp Lo:OL) (w0:World) (b:Nat) (s:ByteArray) (i:Int) (p v:ak) (B:Option Addr) (m d:Nat) (pl e:Int) (l:List UInt8) (hO:fM G (ig b s i p v (.slice B m d) pl e :: (Lp++Lo)) w0) (hrow:cB 5 1 v l.length (Lib.byteCells l) Lo) (h0:l≠[]) :
  Calls prog 243 #[(aK b 2)] w0 (fB w0 G (ig b s i p v (.slice B m d) pl e :: (Lp++Lo)) fun u G' L'=>u=.string ⟨l.toArray⟩∧L'=ig b s i p v (.slice B m d) pl e :: Lp):=by
 rcases hrow.2 with ⟨-,h,-⟩|⟨b2,cap,cur,rfl,rfl,hc1,hc2,hc3,hc4⟩
 ·exact absurd (List.eq_nil_of_length_eq_zero h) h0
 have hl0:l.length≠0:=fun h=>h0 (List.eq_nil_of_length_eq_zero h);have hml:maxLen=9223372036854775807:=rfl;obtain ⟨Lt,qC⟩:∃ x,x=Lp++[(b2,Obj.cells cur 5 (0,0))]:=⟨_,rfl⟩;rw [← qC] at hO ⊢;refine iM (N:=14) (T:=[(0,_)]) func243 rfl ntmps243 rfl rfl hO ?_;refine aj 4 ?_;intro a H;have H:=H.sub (T':=[(0,_)]) ⟨rfl,aY⟩;refine dI hmx [[],[0],[0,1],[0,1,2],(ra 0 4),[],[5],[5,6],[5,6,7],(ra 5 4),(ra 0 10),(ra 0 11)] [10,11] (by kernel_rfl) [_,_,_,.slice (some ⟨b2,0,none⟩) l.length cap,(aK b2 0),_,_,_,.slice (some ⟨b2,0,none⟩) l.length cap,_] H (aF (Z0 rfl (Rm rfl)) (Z1 0 3 rfl (Rk rfl)) (Z1 1 4 rfl (Rf aaZ rfl)) (Z1 2 5 rfl (Ro RQ 0 rfl)) (aF ?_ (Z0 rfl (Rm rfl)) (Z1 5 8 rfl (Rk rfl)) (Z1 6 9 rfl (Rf aaZ rfl)) (aF (Z1 7 10 rfl (Ro RQ 0 rfl)) (Z1 8 11 rfl (Rl NR rfl)) (bS rfl) (bS rfl) cZ))) ?_
 ·refine dM 3 6 rfl rfl fun _ a w G1 hG HT H fin=>?_;refine atH H wn rfl (by omega) rfl ?_;clear H;intro a H;exact fin H iJ rfl
 clear H;intro a w G nH H hv;have H:=H.aV (hv 4 7 rfl rfl) rfl;have H:=H.aV (hv 9 12 rfl rfl) rfl;clear hv;subst qC;have H:=H.perm (List.Perm.cons _ wK);dsimp only [lca,aQ] at H;refine atN (i:=1) l afK ahM h0 (by omega) H wn rfl rfl rfl (by rw [← hc4,Nat.mul_one]) rfl ?_;clear H;intro fz a w H;dsimp only [List.set] at H;refine kH H (Ra rfl ?_);clear H;intro a H;refine aI ⟨rfl,?_⟩;refine dW ?_;refine lr H results243 rfl ?_;exact H.hp.bU (L':=ig b s i _ _ _ pl e :: Lp) (List.Sublist.cons_cons _ (BO _ _)) ⟨rfl,rfl⟩
end
section
open Go.RowKit
section
variable {N:Nat} {D:List Deferred} {w0:World} {F:Nat→Prop} {G0 G G1 G2:GH} {L L1 L2:OL} {T Xs:List (Nat × ak)}
variable {r:Option Nat} {P:Program} {Q:Exit→Act→World→Prop} {l:List Oper} {a a':Act} {w w':World}
theorem DX.perm {pr:Nat→ak→GH→Prop} {S:Nat→Bool} (h:DX N D w0 F G0 G L1 T l pr S a w) (hp:L1.Perm L2):DX N D w0 F G0 G L2 T l pr S a w:=by
 obtain ⟨G1,hG,HS,hv⟩:=h
 exact ⟨G1,hG,HS.perm hp,hv⟩
end
end
section
open Go.RowKit
section
variable {N:Nat} {D:List Deferred} {w0:World} {F:Nat→Prop} {G0 G G1 G2:GH} {L L1 L2:OL} {T Xs:List (Nat × ak)}
variable {r:Option Nat} {P:Program} {Q:Exit→Act→World→Prop} {l:List Oper} {a a':Act} {w w':World}
theorem Jq {pr:Nat→ak→GH→Prop} {S:Nat→Bool} {i d:Nat} {v:ak} (hok:oV l T i=true) (jW:∀ i v (G G':GH),(∀ k o,G k=some o→G' k=some o)→pr i v G→pr i v G') (hi:fH l i=some d)
  (HT:St N D w0 F G0 G1 L T a w) (Hb:St N D w0 F G0 G1 L (Xs++full N a) a w) (hG:∀ k o,G k=some o→G1 k=some o) (hv:∀ j d,j≠i→S j=true→fH l j=some d→∃ v,a.tmps[d]?=some v∧pr j v G1)
  (hG2:∀ k o,G1 k=some o→G2 k=some o) (hp:pr i v G2) (H:St N D w0 F G0 G2 L1 ((d,v) :: (Xs++full N a)) a' w'):DX N D w0 F G0 G L1 T l pr (gy S i) a' w':=by
 have hok1:=hok
 rw [oV,hi] at hok1
 simp only [nk,Option.isNone_iff_eq_none,mZ,vw] at hok1
 have hsame:∀ t,t≠d→a'.tmps[t]?=a.tmps[t]?:=by
  intro t ht
  by_cases hlt:t < N
  ·have h1:∃ u,lk (Xs++full N a) t=some u:=by
    rw [QM]
    cases lk Xs t with
    | some u=>exact ⟨u,rfl⟩
    | none=>exact ⟨_,QN a hlt⟩
   obtain ⟨u,hu⟩:=h1
   rw [Hb.get t u hu,H.get t u (by rw [xw (Ne.symm ht)];exact hu)]
  ·rw [Array.getElem?_eq_none (by rw [H.nu];omega),Array.getElem?_eq_none (by rw [Hb.nu];omega)]
 refine ⟨G2,fun k o hk=>hG2 k o (hG k o hk),⟨H.nu,fun t u ht=>?_,H.uz,H.hp⟩,fun j e hj he=>?_⟩
 ·rw [hsame t (fun e=>by rw [e,hok1.1] at ht;cases ht)]
  exact HT.get t u ht
 ·by_cases hji:j=i
  ·subst hji
   rw [hi] at he
   simp only [nQ] at he
   subst he
   exact ⟨v,H.get d v (yF _ _ _),hp⟩
  ·have hSj:S j=true:=by unfold gy at hj;rwa [ah hji] at hj
   obtain ⟨u,hu1,hu2⟩:=hv j e hji hSj he
   have hne:e≠d:=by
    intro e'
    subst e'
    have h2:=hok1.2 j (BU he)
    rw [Dl (fun h=>hji h.symm),he] at h2
    simp at h2
   exact ⟨u,by rw [hsame e hne];exact hu1,jW j u _ _ hG2 hu2⟩
theorem ahv {id:Nat} {κ:Type} (k0:κ) (hm:P.follows .mixedOrders=true) (dH:List (List Nat)) (B:List Nat) (hk:EP l dH=true) (hB:CX l dH B=true) (m1 m2 m3:Nat) (awX:B.contains m1=false) (awY:B.contains m2=false) (aoR:B.contains m3=false) (hne:Nat.beq m1 m2=false) (acu:Nat.beq m2 m3=false) (hne1:Nat.beq m1 m3=false) (h12:(dH.getD m2 []).contains m1=true) (oW:(dH.getD m3 []).contains m1=true) (h23:(dH.getD m3 []).contains m2=true)
  (C L2:OL) (ob:Obj) (L3:Nat→κ→OL) (hC:∀ x,x∈C→x∈L) (hC2:∀ x,x∈C→x∈L2) (hC3:∀ b k x,x∈C→x∈L3 b k) (pr:Nat→κ→Nat→ak→GH→Prop)
  (aph:∀ b b' k i v G,Nat.beq i m2=false→(dH.getD i []).contains m2=false→pr b k i v G→pr b' k i v G)
  (apj:∀ b k k' i v G,Nat.beq i m3=false→(dH.getD i []).contains m3=false→pr b k i v G→pr b k' i v G)
  (H:St N D w0 F G0 G L T a w)
  (hstep:allI (fun i o=>∀ b k L' S a w G1,(∀ x,x∈C→x∈L')→B.contains i=false→Nat.beq i m1=false→Nat.beq i m2=false→Nat.beq i m3=false→S i=false→(∀ j∈dH.getD i [],S j=true)→(∀ k o,G k=some o→G1 k=some o)→St N D w0 F G0 G1 L' T a w→(∀ i d,S i=true→fH l i=some d→∃ v,a.tmps[d]?=some v∧pr b k i v G1) →
   WL r P l.toArray (fun e a' w'=>e=.normal∧DX N D w0 F G0 G L' T l (pr b k) (gy S i) a' w') [o] a w) 0 l)
  (aoS:∀ o b k S a w G1,l[m1]?=some o→S m1=false→(∀ j∈dH.getD m1 [],S j=true)→(∀ k o,G k=some o→G1 k=some o)→St N D w0 F G0 G1 L T a w→(∀ i d,i≠m1→S i=true→fH l i=some d→∃ v,a.tmps[d]?=some v∧pr b k i v G1) →
   WL r P l.toArray (fun e a' w'=>e=.normal∧DX N D w0 F G0 G L2 T l (pr b k) (gy S m1) a' w') [o] a w)
  (aoT:∀ o k S a w G1,l[m2]?=some o→S m2=false→(∀ j∈dH.getD m2 [],S j=true)→(∀ k o,G k=some o→G1 k=some o)→St N D w0 F G0 G1 L2 T a w→(∀ b i d,i≠m2→S i=true→fH l i=some d→∃ v,a.tmps[d]?=some v∧pr b k i v G1) →
   WL r P l.toArray (fun e a' w'=>e=.normal∧∃ b,DX N D w0 F G0 G ((b,ob) :: L2) T l (pr b k) (gy S m2) a' w') [o] a w)
  (aoU:∀ o b S a w G1,l[m3]?=some o→S m3=false→(∀ j∈dH.getD m3 [],S j=true)→(∀ k o,G k=some o→G1 k=some o)→St N D w0 F G0 G1 ((b,ob) :: L2) T a w→(∀ k i d,i≠m3→S i=true→fH l i=some d→∃ v,a.tmps[d]?=some v∧pr b k i v G1) →
   WL r P l.toArray (fun e a' w'=>e=.normal∧∃ k,DX N D w0 F G0 G (L3 b k) T l (pr b k) (gy S m3) a' w') [o] a w)
  (hend:∀ b k a w G1,(∀ k o,G k=some o→G1 k=some o)→St N D w0 F G0 G1 (L3 b k) T a w→(∀ i d,B.contains i=false→fH l i=some d→∃ v,a.tmps[d]?=some v∧pr b k i v G1)→WL r P l.toArray (fun e a w=>e=.normal∧Q .normal a w) (tK l B) a w)
  (VE:Nat.blt m2 l.length=true) (VF:Nat.blt m3 l.length=true):WP r P (.region id l.toArray true) Q a w:=by
 have aeg:m1≠m2:=fun e=>by subst e;rw [Nat.beq_refl] at hne;cases hne
 have aei:m2≠m3:=fun e=>by subst e;rw [Nat.beq_refl] at acu;cases acu
 have aeh:m1≠m3:=fun e=>by subst e;rw [Nat.beq_refl] at hne1;cases hne1
 refine ZA hm dH B hk hB (fun S a w=>(S m2=true→S m1=true)∧(S m3=true→S m2=true)∧∃ b k L',L'=(bif S m3 then L3 b k else bif S m2 then (b,ob) :: L2 else bif S m1 then L2 else L)∧DX N D w0 F G0 G L' T l (pr b k) S a w)
  ⟨fun h=>h,fun h=>h,0,k0,L,rfl,G,fun _ _ h=>h,H.move H.hp.drew,fun _ _ h=>absurd (show false=true from h) (by decide)⟩ ?_ ?_
 ·rintro i o S a w ho hb dh qX hdesc ⟨ape,apf,b,k,L',hL,G1,hG,HS,hv⟩
  have hsub:∀ x,x∈C→x∈L':=fun x hx=>by
   rw [hL]
   cases S m3 with
   | true=>exact hC3 b k x hx
   | false=>cases S m2 with
    | true=>exact jT _ (hC2 x hx)
    | false=>cases S m1 with
     | true=>exact hC2 x hx
     | false=>exact hC x hx
  have hno:∀ j,j < l.length→S j=true→(dH.getD j []).contains i=false:=fun j hjl hj=>by
   cases hc:(dH.getD j []).contains i with
   | false=>rfl
   | true =>
    have:=hdesc j hjl (by simpa using hc)
    rw [this] at hj;cases hj
  by_cases h1:i=m1
  ·subst h1
   have hS2:S m2=false:=hdesc m2 (Eq.mp Nat.blt_eq VE) (by simpa using h12)
   have JB:S m3=false:=hdesc m3 (Eq.mp Nat.blt_eq VF) (by simpa using oW)
   rw [JB,hS2,dh] at hL
   subst hL
   have h:=aoS o b k S a w G1 ho dh qX hG HS fun j d hj hSj hd=>hv j d hSj hd
   have e2:gy S i m2=S m2:=ah (fun e=>aeg e.symm)
   have e3:gy S i m3=S m3:=ah (fun e=>aeh e.symm)
   refine xI (fun e a' w' ⟨he,hD⟩=>⟨he,fun _=>au rfl,fun h=>(by rw [e3,JB] at h;cases h),b,k,_,?_,hD⟩) h
   rw [show gy S i i=true from au rfl,e2,e3,hS2,JB]
   rfl
  ·by_cases h2:i=m2
   ·subst h2
    have hS1:S m1=true:=qX m1 (by simpa using h12)
    have JB:S m3=false:=hdesc m3 (Eq.mp Nat.blt_eq VF) (by simpa using h23)
    rw [JB,dh,hS1] at hL
    subst hL
    have e1:gy S i m1=S m1:=ah aeg
    have e3:gy S i m3=S m3:=ah (fun e=>aei e.symm)
    have h:=aoT o k S a w G1 ho dh qX hG HS fun b' j d hj hSj hd=>by
     obtain ⟨v,hv1,hv2⟩:=hv j d hSj hd
     exact ⟨v,hv1,aph b b' k j v _ (Dl hj) (hno j (BU hd) hSj) hv2⟩
    refine xI (fun e a' w' ⟨he,b',hD⟩=>⟨he,fun _=>by rw [e1];exact hS1,fun _=>au rfl,b',k,_,?_,hD⟩) h
    rw [show gy S i i=true from au rfl,e3,JB];rfl
   ·by_cases h3:i=m3
    ·subst h3
     have hS1:S m1=true:=qX m1 (by simpa using oW)
     have hS2:S m2=true:=qX m2 (by simpa using h23)
     rw [dh,hS2] at hL
     subst hL
     have e1:gy S i m1=S m1:=ah aeh
     have e2:gy S i m2=S m2:=ah aei
     have h:=aoU o b S a w G1 ho dh qX hG HS fun k' j d hj hSj hd=>by
      obtain ⟨v,hv1,hv2⟩:=hv j d hSj hd
      exact ⟨v,hv1,apj b k k' j v _ (Dl hj) (hno j (BU hd) hSj) hv2⟩
     refine xI (fun e a' w' ⟨he,k',hD⟩=>⟨he,fun _=>by rw [e1];exact hS1,fun _=>by rw [e2];exact hS2,b,k',_,?_,hD⟩) h
     rw [show gy S i i=true from au rfl];rfl
    ·have h:=Ls hstep i o ho
     rw [gX] at h
     have e1:gy S i m1=S m1:=ah (fun e=>h1 e.symm)
     have e2:gy S i m2=S m2:=ah (fun e=>h2 e.symm)
     have e3:gy S i m3=S m3:=ah (fun e=>h3 e.symm)
     refine xI (fun e a' w' ⟨he,hD⟩=>⟨he,by rw [e1,e2];exact ape,by rw [e2,e3];exact apf,b,k,L',?_,hD⟩) (h b k L' S a w G1 hsub hb (Dl h1) (Dl h2) (Dl h3) dh qX hG HS hv)
     rw [e1,e2,e3];exact hL
 ·rintro S a w hall hnB ⟨_,_,b,k,L',hL,G1,hG,HS,hv⟩
  have hs3:S m3=true:=hall m3 (Eq.mp Nat.blt_eq VF) aoR
  rw [hs3] at hL
  subst hL
  exact hend b k a w G1 hG HS fun j d hb hd=>hv j d (hall j (BU hd) hb) hd
end
theorem auV {z:Int} (h1:0≤z) (h2:z < 256):IntKind.u8.wrap z=z:=by
 simp only [IntKind.wrap,IntKind.bits,IntKind.signed,uf,lM,if_false]
 omega
section
variable {N:Nat} {D:List Deferred} {w0:World} {F:Nat→Prop} {G0 G:GH} {L:OL} {T:List (Nat × ak)}
variable {r:Option Nat} {P:Program} {ops:Array Oper} {Q:Exit→Act→World→Prop} {rest:List Oper} {a:Act} {w:World}
variable {d:Nat} {ty:TypeId} {pos:String} {aP:Array Edge} {g:Option (Nat × Bool)}
theorem atL {x y:Operand} {t yt:TypeId} {p q:Int} (H:St N D w0 F G0 G L T a w) (hw:Region.wanted ⟨some d,.binOp .sub t x y yt,ty,pos,aP,g⟩ (yielded ops a.tmps)=true) (hx:ev T x=some (.int .u8 p)) (hy:ev T y=some (.int .u8 q)) (h1:0≤p - q) (h2:p - q < 256) (hd:Nat.blt d N=true)
  (k:∀ a',St N D w0 F G0 G L ((d,.int .u8 (p - q)) :: T) a' w→WL r P ops Q rest a' w):WL r P ops Q (⟨some d,.binOp .sub t x y yt,ty,pos,aP,g⟩ :: rest) a w :=
 fQ (v:=.int .u8 (p - q)) (w':=w) hw rfl (by simp [execOp,eqGuard,binOp,Op.intArith,H.ev hx,H.ev hy,dX,auV h1 h2]) (k _ (H.put hd _ H.hp))
end
end
section
open Go.RowKit
theorem akN:∀ args w,(callFunc 242 args).run prog w=.ok (.enter 242 args) w:=enters func242 rfl (by kernel_rfl)
instance X4:Ty prog 253 1 24 [.slice none 0 0] false:=⟨by kernel_rfl,by kernel_rfl⟩
theorem akO:∀ args w,(callFunc 243 args).run prog w=.ok (.enter 243 args) w:=enters func243 rfl (by kernel_rfl)
theorem NQ:prog.underlying 253=some (.slice 258):=by kernel_rfl
instance:kR prog 253 (.slice 258):=⟨NQ⟩
instance NM:Ty prog 258 3 32 [.string ⟨#[]⟩,.int .i64 0,.bool false] true:=⟨by kernel_rfl,by kernel_rfl⟩
theorem akP:∀ args w,(callFunc 244 args).run prog w=.ok (.enter 244 args) w:=enters func244 rfl (by kernel_rfl)
instance amk:dL prog 289 2 2:=⟨by kernel_rfl⟩
instance aml:dL prog 289 3 4:=⟨by kernel_rfl⟩
theorem afp:sV prog 258 [(0,1),(1,1),(2,1)] [.string ⟨#[]⟩,.int .i64 0,.bool false]:=⟨by kernel_rfl,by kernel_rfl⟩
theorem TW:∀ args w,(callFunc 236 args).run prog w=.ok (.enter 236 args) w:=enters func236 rfl (by kernel_rfl)
instance abb:dL prog 289 4 5:=⟨by kernel_rfl⟩
structure jq where
 lit:ByteArray
 level:Int
 plain:Bool
def jq.dat (x:jq):List Dat:=[.lf (.string x.lit),li x.level,.lf (.bool x.plain)]
abbrev jq.cells (x:jq):List ak:=[.string x.lit,vi x.level,.bool x.plain]
theorem adO (G:GH) (x:jq):aZ G x.dat x.cells:=by
 simp only [jq.dat,jq.cells,aZ]
 exact ⟨_,_,rfl,by simp [ay,Value.oneCell'],_,_,rfl,by simp [ay,Value.oneCell'],_,_,rfl,by simp [ay,Value.oneCell'],rfl⟩
theorem adN {G:GH} {x:jq} {cs:List ak} (h:aZ G x.dat cs):cs=x.cells:=by
 simp only [jq.dat,aZ,ay] at h
 obtain ⟨_,_,rfl,⟨rfl,_⟩,_,_,rfl,⟨rfl,_⟩,_,_,rfl,⟨rfl,_⟩,rfl⟩:=h
 rfl
def Fv (l:List jq):List ak:=(l.map jq.cells).flatten
theorem adM (l:List jq) (x:jq):Fv (l++[x])=Fv l++x.cells:=by simp [Fv]
structure BL (b:Nat) (lit:List UInt8) (parts:List jq) (p v q:ak) (Lp Lo:OL):Prop where
 ptr:p=.pointer none∨p=(aK b 2)
 buf:cB 5 1 v lit.length (Lib.byteCells lit) Lo
 prt:cB 258 3 q parts.length (Fv parts) Lp
def wQ (lit:List UInt8) (parts:List jq):List jq:=if lit=[] then parts else parts++[⟨⟨lit.toArray⟩,0,false⟩]
theorem UA (G:GH) (Lp Lo:OL) (w0:World) (b:Nat) (s:ByteArray) (i:Int) (p v q:ak) (pl e:Int) (lit:List UInt8) (parts:List jq) (hR:BL b lit parts p v q Lp Lo) (hO:fM G (ig b s i p v q pl e :: (Lp++Lo)) w0) (hl:lit.length≤4294967296) (hp:parts.length≤4294967296) :
  Calls prog 236 #[(aK b 0)] w0 (fB w0 G (ig b s i p v q pl e :: (Lp++Lo)) fun u G' L'=>∃ p' v' q' rT jo,L'=ig b s i p' v' q' pl e :: (rT++jo)∧BL b [] (wQ lit parts) p' v' q' rT jo):=by
 obtain ⟨acB,hbuf,Qn⟩:=hR;have hml:maxLen=9223372036854775807:=rfl;obtain ⟨A,c,rfl,adh,adi⟩:=hbuf.shape;obtain ⟨B,d,rfl,acC,acD⟩:=Qn.shape;obtain ⟨Lt,qC⟩:∃ x,x=Lp++Lo:=⟨_,rfl⟩;rw [← qC] at hO ⊢;refine iM (N:=25) (T:=[(0,_)]) func236 rfl ntmps236 rfl rfl hO ?_;refine aj 4 ?_;intro a H;refine fu akN (Li:=[]) (L:=ig b s i p (.slice A lit.length c) (.slice B parts.length d) pl e :: Lt) H wn rfl (aup _ _ _ b s i p A lit.length c B parts.length d pl e (Hp.owns (Li:=[]) H.hp)) rfl ?_;clear H;rintro v5 _ L5 a w ⟨rfl,rfl,rfl⟩ Qh H;dsimp only [List.nil_append] at H;refine eO 2 H ?_ ?_ <;> clear H
 ·intro p6
  have hne:lit≠[]:=fun e=>by rw [e] at p6;simp at p6
  subst qC;refine aj 1 ?_
  have dQ:∀ (bO:Nat) (iR:(Option Addr × Nat) × OL) (bJ:Nat) (v:ak) (G G':GH),(∀ k o,G k=some o→G' k=some o)→(fun (bO:Nat) (iR:(Option Addr × Nat) × OL) (bJ:Nat) (v:ak) (G:GH)=>match bJ with|0=>v=(aK b 0)|1=>v=(aK b 0)|2=>v=(aK b 0)|3=>v=(aK b 4)|4=>v=.slice B parts.length d|5=>v=(aK b 0)|6=>v=(aK b 0)|7=>v=(aK b 2)|8=>v=.string ⟨lit.toArray⟩|9=>v=.agg (jq.cells ⟨⟨lit.toArray⟩,0,false⟩).toArray|10=>v=.slice (some ⟨bO,0,none⟩) 1 1|11=>v=.slice iR.1.1 (parts.length+1) iR.1.2∧cB 258 3 v (parts.length+1) (Fv (parts++[⟨⟨lit.toArray⟩,0,false⟩])) iR.2|_=>True) bO iR bJ v G→(fun (bO:Nat) (iR:(Option Addr × Nat) × OL) (bJ:Nat) (v:ak) (G:GH)=>match bJ with|0=>v=(aK b 0)|1=>v=(aK b 0)|2=>v=(aK b 0)|3=>v=(aK b 4)|4=>v=.slice B parts.length d|5=>v=(aK b 0)|6=>v=(aK b 0)|7=>v=(aK b 2)|8=>v=.string ⟨lit.toArray⟩|9=>v=.agg (jq.cells ⟨⟨lit.toArray⟩,0,false⟩).toArray|10=>v=.slice (some ⟨bO,0,none⟩) 1 1|11=>v=.slice iR.1.1 (parts.length+1) iR.1.2∧cB 258 3 v (parts.length+1) (Fv (parts++[⟨⟨lit.toArray⟩,0,false⟩])) iR.2|_=>True) bO iR bJ v G':=by
   intro bO iR bJ v G G' hm h
   match bJ,h with
   | 0,h=>exact h
   | 1,h=>exact h
   | 2,h=>exact h
   | 3,h=>exact h
   | 4,h=>exact h
   | 5,h=>exact h
   | 6,h=>exact h
   | 7,h=>exact h
   | 8,h=>exact h
   | 9,h=>exact h
   | 10,h=>exact h
   | 11,h=>exact h
   | 12,h=>exact trivial
   | 13,h=>exact trivial
   | 14,h=>exact trivial
   | _+15,h=>exact trivial
  intro a H;refine ahv (κ:=(Option Addr × Nat) × OL) (((none,0),[])) (hmx) [[],[],[1],[1,2],[1,2,3],[],[5],[5,6],[5,6,7],(ra 5 4),(ra 5 5),(ra 1 10),(ra 0 12),(ra 0 13),(ra 0 14)] [12,13,14] (by kernel_rfl) (by kernel_rfl) 8 10 11 (by decide) (by decide) (by decide) (by decide) (by decide) (by decide) (by decide) (by decide) (by decide) [ig b s i p (.slice A lit.length c) (.slice B parts.length d) pl e] (ig b s i p (.slice A lit.length c) (.slice B parts.length d) pl e :: Lp) (.cells (jq.cells ⟨⟨lit.toArray⟩,0,false⟩).toArray 258 (0,0)) (fun b_ k_=>(b_,.cells (jq.cells ⟨⟨lit.toArray⟩,0,false⟩).toArray 258 (0,0)) :: ig b s i p (.slice A lit.length c) (.slice B parts.length d) pl e :: k_.2) (fun x hx=>by rw [qO.1 hx];exact gP) (fun x hx=>by rw [qO.1 hx];exact gP) (fun _ _ x hx=>by rw [qO.1 hx];exact jT _ gP) (fun (bO:Nat) (iR:(Option Addr × Nat) × OL) (bJ:Nat) (v:ak) (G:GH)=>match bJ with|0=>v=(aK b 0)|1=>v=(aK b 0)|2=>v=(aK b 0)|3=>v=(aK b 4)|4=>v=.slice B parts.length d|5=>v=(aK b 0)|6=>v=(aK b 0)|7=>v=(aK b 2)|8=>v=.string ⟨lit.toArray⟩|9=>v=.agg (jq.cells ⟨⟨lit.toArray⟩,0,false⟩).toArray|10=>v=.slice (some ⟨bO,0,none⟩) 1 1|11=>v=.slice iR.1.1 (parts.length+1) iR.1.2∧cB 258 3 v (parts.length+1) (Fv (parts++[⟨⟨lit.toArray⟩,0,false⟩])) iR.2|_=>True) (fun b b' k i v G hi hc h=>by match i,hi,hc,h with|0,_,_,h=>exact h|1,_,_,h=>exact h|2,_,_,h=>exact h|3,_,_,h=>exact h|4,_,_,h=>exact h|5,_,_,h=>exact h|6,_,_,h=>exact h|7,_,_,h=>exact h|8,_,_,h=>exact h|9,_,_,h=>exact h|10,hi,_,_=>exact absurd hi (by decide)|11,_,hc,_=>exact absurd hc (by decide)|12,_,hc,_=>exact absurd hc (by decide)|13,_,hc,_=>exact absurd hc (by decide)|14,_,hc,_=>exact absurd hc (by decide)|_+15,_,_,_=>exact trivial) (fun b k k' i v G hi hc h=>by match i,hi,hc,h with|0,_,_,h=>exact h|1,_,_,h=>exact h|2,_,_,h=>exact h|3,_,_,h=>exact h|4,_,_,h=>exact h|5,_,_,h=>exact h|6,_,_,h=>exact h|7,_,_,h=>exact h|8,_,_,h=>exact h|9,_,_,h=>exact h|10,_,_,h=>exact h|11,hi,_,_=>exact absurd hi (by decide)|12,_,hc,_=>exact absurd hc (by decide)|13,_,hc,_=>exact absurd hc (by decide)|14,_,hc,_=>exact absurd hc (by decide)|_+15,_,_,_=>exact trivial) H ?_ ?_ ?_ ?_ ?_ (by kernel_rfl) (by kernel_rfl)
  ·clear H;refine aF ?_ ?_ ?_ ?_ (aF ?_ ?_ ?_ ?_ (aF ?_ ?_ ?_ ?_ (aW ?_ (aW ?_ (aW ?_ cZ)))))
   ·intro bO iR jE bN a w G1 kC _ _ _ _ dh hc hG HT hv;have H:=HT;clear dh;have Hb:=H.full;have H:=Hb;clear hc;refine aH 1 H ?_;clear H;intro a H;refine aI ⟨rfl,?_⟩;exact jV (by kernel_rfl) (dQ bO iR) rfl rfl HT Hb hG hv (fun _ _ h=>h) (rfl) H
   ·intro bO iR jE bN a w G1 kC _ _ _ _ dh hc hG HT hv;have H:=HT;clear dh;have Hb:=H.full;have H:=Hb;clear hc;refine aH 1 H ?_;clear H;intro a H;refine aI ⟨rfl,?_⟩;exact jV (by kernel_rfl) (dQ bO iR) rfl rfl HT Hb hG hv (fun _ _ h=>h) (rfl) H
   ·intro bO iR jE bN a w G1 kC _ _ _ _ dh hc hG HT hv;have H:=HT;clear dh;have H:=H.aV (hv 1 8 (hc 1 (by decide)) rfl) rfl;have Hb:=H.full;have H:=Hb;clear hc;refine aH 1 H ?_;clear H;intro a H;refine aI ⟨rfl,?_⟩;exact jV (by kernel_rfl) (dQ bO iR) rfl rfl HT Hb hG hv (fun _ _ h=>h) (rfl) H
   ·intro bO iR jE bN a w G1 kC _ _ _ _ dh hc hG HT hv;have H:=HT;clear dh;have H:=H.aV (hv 2 9 (hc 2 (by decide)) rfl) rfl;have Hb:=H.full;have H:=Hb;clear hc;refine aH 1 H ?_;clear H;intro a H;refine aI ⟨rfl,?_⟩;exact jV (by kernel_rfl) (dQ bO iR) rfl rfl HT Hb hG hv (fun _ _ h=>h) (rfl) H
   ·intro bO iR jE bN a w G1 kC _ _ _ _ dh hc hG HT hv;have H:=HT;clear dh;have H:=H.aV (hv 3 10 (hc 3 (by decide)) rfl) rfl;have Hb:=H.full;have H:=Hb;clear hc;refine iH X4 H wn rfl (H.hp.QT (kC _ gP) rfl) rfl ?_;clear H;intro a H;refine aI ⟨rfl,?_⟩;exact jV (by kernel_rfl) (dQ bO iR) rfl rfl HT Hb hG hv (fun _ _ h=>h) (rfl) H
   ·intro bO iR jE bN a w G1 kC _ _ _ _ dh hc hG HT hv;have H:=HT;clear dh;have Hb:=H.full;have H:=Hb;clear hc;refine aH 1 H ?_;clear H;intro a H;refine aI ⟨rfl,?_⟩;exact jV (by kernel_rfl) (dQ bO iR) rfl rfl HT Hb hG hv (fun _ _ h=>h) (rfl) H
   ·intro bO iR jE bN a w G1 kC _ _ _ _ dh hc hG HT hv;have H:=HT;clear dh;have H:=H.aV (hv 5 12 (hc 5 (by decide)) rfl) rfl;have Hb:=H.full;have H:=Hb;clear hc;refine aH 1 H ?_;clear H;intro a H;refine aI ⟨rfl,?_⟩;exact jV (by kernel_rfl) (dQ bO iR) rfl rfl HT Hb hG hv (fun _ _ h=>h) (rfl) H
   ·intro bO iR jE bN a w G1 kC _ _ _ _ dh hc hG HT hv;have H:=HT;clear dh;have H:=H.aV (hv 6 13 (hc 6 (by decide)) rfl) rfl;have Hb:=H.full;have H:=Hb;clear hc;refine aH 1 H ?_;clear H;intro a H;refine aI ⟨rfl,?_⟩;exact jV (by kernel_rfl) (dQ bO iR) rfl rfl HT Hb hG hv (fun _ _ h=>h) (rfl) H
   ·intro _ _ _ _ _ _ _ _ _ hB;exact absurd hB (by decide)
   ·intro bO iR jE bN a w G1 kC _ _ _ _ dh hc hG HT hv;have H:=HT;clear dh;have H:=H.aV (hv 8 15 (hc 8 (by decide)) rfl) rfl;have Hb:=H.full;have H:=Hb;clear hc;refine jZ afp [_,_,_] H wn rfl rfl rfl rfl ?_;clear H;intro a H;refine aI ⟨rfl,?_⟩;exact jV (by kernel_rfl) (dQ bO iR) rfl rfl HT Hb hG hv (fun _ _ h=>h) (rfl) H
   ·intro _ _ _ _ _ _ _ _ _ _ hB;exact absurd hB (by decide)
   ·intro _ _ _ _ _ _ _ _ _ _ _ hB;exact absurd hB (by decide)
   ·intro _ _ _ _ _ _ _ _ hB;exact absurd hB (by decide)
   ·intro _ _ _ _ _ _ _ _ hB;exact absurd hB (by decide)
   intro _ _ _ _ _ _ _ _ hB;exact absurd hB (by decide)
  ·clear H;intro o_ bO iR bN a w G1 Fj _ hc hG HT hv;obtain rfl:_=o_:=Option.some.inj Fj;clear Fj;have H:=HT;have H:=H.aV (hv 7 14 (by decide) (hc 7 (by decide)) rfl) rfl;have Hb:=H.full;have H:=Hb;clear hc;refine fu akO (Li:=[]) (L:=ig b s i p (.slice A lit.length c) (.slice B parts.length d) pl e :: (Lp++Lo)) H wn rfl (auJ _ _ _ _ b s i p _ B parts.length d pl e lit (Hp.owns (Li:=[]) H.hp) hbuf hne) rfl ?_;clear H;rintro v15 Ey L15 a w ⟨rfl,rfl⟩ Hq H;dsimp only [List.nil_append] at H;refine aI ⟨rfl,?_⟩;exact Jq (by kernel_rfl) (dQ bO iR) rfl HT Hb hG (fun j e h1 h2 h3=>hv j e h1 h2 h3) Hq (rfl) H
  ·clear H;intro o_ iR bN a w G1 Fj _ hc hG HT hv;obtain rfl:_=o_:=Option.some.inj Fj;clear Fj;have H:=HT;have H:=H.aV (hv 0 9 16 (by decide) (hc 9 (by decide)) rfl) rfl;have Hb:=H.full;have H:=Hb;clear hc;refine iy NQ NM [_,_,_] [_,_,_] H wn rfl rfl rfl rfl rfl (by intro i q h;match i,h with|0,h=>exact h|n+1,h=>simp at h) rfl rfl ?_;clear H;intro b17 a w awj H;refine aI ⟨rfl,b17,?_⟩;exact aag (by kernel_rfl) rfl HT Hb hG (fun j e h1 h2 h3=>hv _ j e h1 h2 h3) (rfl) H
  ·clear H;intro o_ bO bN a w G1 Fj _ hc hG HT hv;obtain rfl:_=o_:=Option.some.inj Fj;clear Fj;have H:=HT;have H:=H.aV (hv (((none,0),[])) 4 11 (by decide) (hc 4 (by decide)) rfl) rfl;have H:=H.aV (hv (((none,0),[])) 10 17 (by decide) (hc 10 (by decide)) rfl) rfl;have Hb:=H.full;have H:=Hb;clear hc;refine oK (Li:=[_,_]) (Lo:=Lp) (news:=jq.cells ⟨⟨lit.toArray⟩,0,false⟩) NQ NM rfl rfl H wn rfl rfl Qn rfl (H.hp.cO 0 rfl rfl) rfl (by omega) (by omega) rfl ?_;clear H;intro v18 agR a w JX H;obtain ⟨A18,c18,rfl,-,-⟩:=JX.shape;rw [← adM] at JX;refine aI ⟨rfl,((A18,c18),agR),?_⟩;exact aag (by kernel_rfl) rfl HT Hb hG (fun j e h1 h2 h3=>hv _ j e h1 h2 h3) (⟨rfl,JX⟩) H
  clear H;intro b17 iR a w G nH H hv;have H:=H.aV (hv 0 7 rfl rfl) rfl;obtain ⟨u18,V4,MV⟩:=hv 11 18 (by decide) rfl;(try dsimp only at MV);obtain ⟨rfl,JX⟩:=MV;have H:=H.kI V4;clear hv;refine kH H (Rk rfl (Rf aml rfl ?_));clear H;intro a H;refine bq X4 1 (vs:=[_]) _ H wn rfl rfl rfl rfl rfl rfl rfl rfl ?_;clear H;intro w H;dsimp only [List.set,setRow] at H;refine aI ⟨rfl,?_⟩;refine dW ?_;refine dG 4 H ?_;clear H;intro a H;refine fu akP (Li:=[_]) (L:=ig b s i p (.slice A lit.length c) (.slice iR.1.1 (parts.length+1) iR.1.2) pl e :: iR.2) H wn rfl (auG _ _ _ b s i p A lit.length c iR.1.1 (parts.length+1) iR.1.2 pl e (Hp.owns (Li:=[_]) H.hp)) rfl ?_;clear H;rintro v24 _ L24 a w ⟨rfl,rfl⟩ H7 H;dsimp only [lca,aQ] at H;refine aI ?_;refine (leave0 H results236 ?_).2
  first
   | exact H.hp.bU (L':=ig b s i _ _ _ pl e :: iR.2) (BO _ _) ⟨_,_,_,iR.2,[],by rw [lD],⟨.inl rfl,cB.nil,by rw [wQ,ah hne];simpa using JX⟩⟩
   | exact H.hp.dO ⟨_,_,_,Lp,Lo,by rw [qC],by
     have h0:lit=[]:=by
      cases lit with
      | nil=>rfl
      | cons x r=>simp at p6
     subst h0;exact ⟨acB,hbuf,by rw [wQ,au rfl];exact Qn⟩⟩
 intro p6
 intro a H;refine iE ?_;refine (leave0 H results236 ?_).2
 first
  | exact H.hp.bU (L':=ig b s i _ _ _ pl e :: iR.2) (BO _ _) ⟨_,_,_,iR.2,[],by rw [lD],⟨.inl rfl,cB.nil,by rw [wQ,ah hne];simpa using JX⟩⟩
  | exact H.hp.dO ⟨_,_,_,Lp,Lo,by rw [qC],by
    have h0:lit=[]:=by
     cases lit with
     | nil=>rfl
     | cons x r=>simp at p6
    subst h0;exact ⟨acB,hbuf,by rw [wQ,au rfl];exact Qn⟩⟩
theorem aeK (G:GH) (Lp Lo:OL) (w0:World) (b:Nat) (s:ByteArray) (i:Int) (p v q:ak) (pl e:Int) (lit:List UInt8) (parts:List jq) (ch:Int) (plain:Bool) (hR:BL b lit parts p v q Lp Lo) (hO:fM G (ig b s i p v q pl e :: (Lp++Lo)) w0) (hl:lit.length≤4294967296) (hp:parts.length≤4294967290) (hc:49≤ch∧ch≤57) (hpl:0≤pl∧pl≤4294967296) :
  Calls prog 240 #[(aK b 0),.int .u8 ch,.bool plain] w0 (fB w0 G (ig b s i p v q pl e :: (Lp++Lo)) fun u G' L'=>∃ p' v' q' rT jo,L'=ig b s i p' v' q' (pl+1) e :: (rT++jo)∧BL b [] (wQ lit parts++[⟨⟨#[]⟩,ch - 48,plain⟩]) p' v' q' rT jo):=by
 have hml:maxLen=9223372036854775807:=rfl
 have hfl:(wQ lit parts).length≤parts.length+1:=by unfold wQ;split <;> simp
 obtain ⟨A,c,rfl,adh,adi⟩:=hR.buf.shape;obtain ⟨B,d,rfl,acC,acD⟩:=hR.prt.shape;obtain ⟨Lt,qC⟩:∃ x,x=Lp++Lo:=⟨_,rfl⟩;rw [← qC] at hO ⊢;refine iM (N:=29) (T:=[(0,_),(1,_),(2,_)]) func240 rfl ntmps240 rfl rfl hO ?_;refine aj 2 ?_;intro a H;refine fu TW (Li:=[]) (L:=ig b s i p (.slice A lit.length c) (.slice B parts.length d) pl e :: Lt) H wn rfl (by subst qC;exact UA _ Lp Lo _ b s i p _ _ pl e lit parts hR (Hp.owns (Li:=[]) H.hp) hl (by omega)) rfl ?_;clear H;rintro v7 G7 L7 a w ⟨p',v',q',rT,jo,rfl,MF⟩ vO H;dsimp only [List.nil_append] at H;obtain ⟨A7,c7,rfl,-,-⟩:=MF.buf.shape;obtain ⟨B7,d7,rfl,-,-⟩:=MF.prt.shape;refine aH 8 H ?_;clear H;intro a H;refine atL H wn rfl rfl (by omega) (by omega) rfl ?_;clear H;intro a H;refine FI _ lZ Ky H wn rfl rfl rfl ?_;clear H;intro a H;rw [Il (by omega) (by omega)] at H;refine aH 1 H ?_;clear H;intro a H;refine jZ afp [_,_,_] H wn rfl rfl rfl rfl ?_;clear H;intro a H;refine iy NQ NM [_,_,_] [_,_,_] H wn rfl rfl rfl rfl rfl (by intro i q h;match i,h with|0,h=>exact h|n+1,h=>simp at h) rfl rfl ?_;clear H;intro b18 a w P7 H;have H:=(St.cast H (show _=[_,_]++(rT++jo) from rfl)).perm (List.Perm.append_left _ wK);have H:=St.un H;refine oK (Li:=[_,_]++jo) (Lo:=rT) (news:=jq.cells ⟨⟨#[]⟩,ch - 48,plain⟩) NQ NM rfl rfl H wn rfl rfl MF.prt rfl (H.hp.cO 0 rfl rfl) rfl (by omega) (by omega) rfl ?_;clear H;intro v19 Y5 a w zX H;obtain ⟨KF,c19,rfl,-,-⟩:=zX.shape;rw [← adM] at zX;have H:=H.assoc.perm (List.Perm.append_left _ wK);dsimp only [lca,aQ] at H;refine aH 2 H ?_;clear H;intro a H;refine bq X4 1 (vs:=[_]) _ H wn rfl rfl rfl rfl rfl rfl rfl rfl ?_;clear H;intro w H;dsimp only [List.set,setRow] at H;refine aH 9 H ?_;clear H;intro a H;refine bq bC 1 (vs:=[_]) _ H wn rfl rfl rfl rfl rfl rfl rfl rfl ?_;clear H;intro w H;dsimp only [List.set,setRow] at H;refine aI ?_;refine (leave0 H results240 ?_).2;exact H.hp.bU (L':=ig b s i _ _ _ (pl+1) e :: (Y5++jo)) (BO _ _) ⟨_,_,_,Y5,jo,rfl,MF.ptr,MF.buf,by simpa using zX⟩
end
section
open Go.RowKit
section
variable {N:Nat} {D:List Deferred} {w0:World} {F:Nat→Prop} {G0 G:GH} {L:OL} {T Xs:List (Nat × ak)}
variable {r:Option Nat} {P:Program} {Q:Exit→Act→World→Prop} {l:List Oper} {a a':Act} {w w':World}
abbrev Yz:Type:=Nat × ak × Nat × Bool
def YA (ent:List Yz) (S:Nat→Bool) (a:Act):Prop:=∀ e∈ent,S e.2.2.1=e.2.2.2→a.tmps[e.1]?=some e.2.1
theorem YA.at {ent:List Yz} {S:Nat→Bool} {a:Act} (h:YA ent S a) (k:Nat) {t:Nat} {v:ak} {j:Nat} {b:Bool} (hk:ent[k]?=some (t,v,j,b)) (hS:S j=b):a.tmps[t]?=some v:=h _ (mg hk) hS
theorem atK {ops:Array Oper} {rest:List Oper} {d:Nat} {ty:TypeId} {pos:String} {aP:Array Edge} {g:Option (Nat × Bool)} {t:TypeId} {x y:Operand} {s:ByteArray} {ky:IntKind} {p:Int} (hi:Nat) (ht:P.underlying t=some .string) (H:St N D w0 F G0 G L T a w) (hw:Region.wanted ⟨some d,.slice t x none (some y) none,ty,pos,aP,g⟩ (yielded ops a.tmps)=true) (hx:ev T x=some (.string s)) (hy:ev T y=some (.int ky p)) (hp:p=(hi:Int)) (h1:hi≤s.size) (hd:Nat.blt d N=true)
  (k:∀ a',St N D w0 F G0 G L ((d,.string (s.extract 0 hi)) :: T) a' w→WL r P ops Q rest a' w):WL r P ops Q (⟨some d,.slice t x none (some y) none,ty,pos,aP,g⟩ :: rest) a w:=by
 subst hp
 have hr:=run_slice_string_h (P:=P) w t s ht ky (hi:Int) (by omega) (by omega)
 rw [Int.toNat_natCast] at hr
 refine fQ (v:=.string (s.extract 0 hi)) (w':=w) hw rfl ?_ (k _ (H.put hd _ H.hp))
 simp only [execOp,H.ev hx,BP,Option.map_none,H.ev hy,dX,run_sliceAt_string w t _ _ _ _ ht,hr,mM,tX]
end
end
section
open Go.RowKit
theorem akQ:∀ args w,(callFunc 245 args).run prog w=.ok (.enter 245 args) w:=enters func245 rfl (by kernel_rfl)
instance Ca:dL prog 289 0 0:=⟨by kernel_rfl⟩
theorem aaA:∀ args w,(callFunc 235 args).run prog w=.ok (.enter 235 args) w:=enters func235 rfl (by kernel_rfl)
theorem aaB:∀ args w,(callFunc 239 args).run prog w=.ok (.enter 239 args) w:=enters func239 rfl (by kernel_rfl)
theorem aaC:∀ args w,(callFunc 240 args).run prog w=.ok (.enter 240 args) w:=enters func240 rfl (by kernel_rfl)
instance yX:dL prog 289 1 1:=⟨by kernel_rfl⟩
theorem TY:∀ args w,(callFunc 238 args).run prog w=.ok (.enter 238 args) w:=enters func238 rfl (by kernel_rfl)
instance GX:dL prog 289 5 6:=⟨by kernel_rfl⟩
def tC (s p:ByteArray):Bool:=decide (p.size≤s.size) && ((s.extract 0 p.size).toList == p.toList)
theorem anK (G:GH) (w0:World) (hG:Hold G w0) (s p:ByteArray) (hs:s.size≤4611686018427387904) (hp:p.size≤4611686018427387904):Calls prog 245 #[.string s,.string p] w0 (bB w0 G fun u G'=>u=.bool (tC s p)∧G=G'):=by
 refine eN [(0,_),(1,_)] func245 rfl ntmps245 rfl rfl hG ?_;refine iV 10 10 ?_ ?_
 ·intro h10
  try have kE:=dT h10
  refine aj 2 ?_;intro a H;refine Bt jl H (wg H rfl rfl h10) rfl rfl ?_;clear H;intro a H;refine atK p.size jl H (wg H rfl rfl h10) rfl rfl rfl (by omega) rfl ?_;clear H;refine aj 1 ?_;intro a H;refine CQ H (wg H rfl rfl h10) rfl rfl rfl ?_;clear H;refine aJ 3 ?_;exact ⟨dJ (by unfold tC;first|(simp_all;done)|(simp_all;omega)),rfl⟩
 intro h10
 try have kE:=dF h10
 refine aJ 9 ?_;exact ⟨dJ (by unfold tC;first|(simp_all;done)|(simp_all;omega)),rfl⟩
theorem U8 (G:GH) (w0:World) (hG:Hold G w0) (s p:ByteArray) (hs:s.size≤4611686018427387904) (hp:p.size≤4611686018427387904):Calls prog 238 #[.string s,.string p] w0 (bB w0 G fun u G'=>u=.bool (tC s p)∧G=G'):=by
 refine eN [(0,_),(1,_)] func238 rfl ntmps238 rfl rfl hG ?_;refine aj 6 ?_;intro a H;refine s_call akQ H wn rfl (anK _ _ H.ro s p hs hp) rfl ?_;clear H;rintro v7 _ a w ⟨rfl,rfl⟩ - H;refine gK 2 H ?_;exact ⟨rfl,rfl⟩
def wN (s:ByteArray) (k:Nat):Bool:=decide (k < s.size) && decide (49≤gF s k) && decide (gF s k≤57)
theorem aae (G:GH) (L:OL) (w0:World) (b:Nat) (s:ByteArray) (i:Int) (p v q:ak) (pl e:Int) (k:Nat) (hs:s.size≤4611686018427387904) (hO:fM G (ig b s i p v q pl e :: L) w0) :
  Calls prog 239 #[(aK b 0),vi k] w0 (fB w0 G (ig b s i p v q pl e :: L) fun u G' L'=>u=.bool (wN s k)∧L'=ig b s i p v q pl e :: L∧G'=G):=by
 refine iM (N:=30) (T:=[(0,_),(1,_)]) func239 rfl ntmps239 rfl rfl hO ?_;refine iV 12 12 ?_ ?_
 ·intro h12
  try have lu:=dT h12
  refine aj 1 ?_;intro a H;refine uS H (wg H rfl rfl h12) rfl rfl ?_;clear H;refine aj 3 ?_;intro a H;refine qj k jl H (wg H rfl rfl h12) rfl rfl rfl (by omega) rfl ?_;clear H;intro a H;rw [← lS] at H;refine jA 3 21 H ?_ ?_ <;> clear H
  ·intro h21
   try have nN:=dT h21
   refine aj 1 ?_;intro a H;refine uS H (wg H rfl rfl h21) rfl rfl ?_;clear H;refine aj 3 ?_;intro a H;refine qj k jl H (wg H rfl rfl h21) rfl rfl rfl (by omega) rfl ?_;clear H;intro a H;rw [← lS] at H;refine aH 4 H ?_;clear H;intro a H;refine lr H results239 rfl ?_;exact H.hp.dO ⟨dJ (by unfold wN;first|(simp_all;done)|(simp_all;omega)),rfl,rfl⟩
  intro h21
  try have nN:=dF h21
  refine aj 10 ?_;intro a H;refine lr H results239 rfl ?_;exact H.hp.dO ⟨dJ (by unfold wN;first|(simp_all;done)|(simp_all;omega)),rfl,rfl⟩
 intro h12
 try have lu:=dF h12
 refine aj 19 ?_;intro a H;refine lr H results239 rfl ?_;exact H.hp.dO ⟨dJ (by unfold wN;first|(simp_all;done)|(simp_all;omega)),rfl,rfl⟩
structure wH where
 i:Nat
 lit:List UInt8
 parts:List jq
 pl:Nat
 e:Int
def qh (s:ByteArray) (x:wH):wH :=
 if tC (s.extract x.i s.size) ⟨#[37,37]⟩=true then ⟨x.i+2,x.lit++[37],x.parts,x.pl,x.e⟩
 else if wN s (x.i+1)=true then ⟨x.i+2,[],wQ x.lit x.parts++[⟨⟨#[]⟩,gF s (x.i+1) - 48,false⟩],x.pl+1,x.e⟩
 else if tC (s.extract x.i s.size) ⟨#[37,100]⟩=true∧wN s (x.i+2)=true then ⟨x.i+3,[],wQ x.lit x.parts++[⟨⟨#[]⟩,gF s (x.i+2) - 48,true⟩],x.pl+1,x.e⟩
 else ⟨x.i,x.lit,x.parts,x.pl,14⟩
abbrev yJ (b:Nat) (s:ByteArray) (x:wH) (p v q:ak):Nat × Obj:=ig b s x.i p v q x.pl x.e
theorem aad {s:ByteArray} {k:Nat} (h:wN s k=true):k < s.size∧49≤gF s k∧gF s k≤57:=by
 simpa [wN,and_assoc] using h
theorem asq (G:GH) (Lp Lo:OL) (w0:World) (b:Nat) (s:ByteArray) (x:wH) (p v q:ak) (hR:BL b x.lit x.parts p v q Lp Lo) (hO:fM G (yJ b s x p v q :: (Lp++Lo)) w0) (hs:s.size≤4294967290) (hi:x.i < s.size) (hl:x.lit.length≤4294967290) (hp:x.parts.length≤4294967290) (hpl:x.pl≤4294967290) :
    Calls prog 234 #[(aK b 0)] w0 (fB w0 G (yJ b s x p v q :: (Lp++Lo)) fun u G' L'=>∃ p' v' q' rT jo,L'=yJ b s (qh s x) p' v' q' :: (rT++jo)∧BL b (qh s x).lit (qh s x).parts p' v' q' rT jo):=by
  obtain ⟨i,lit,parts,pl,e⟩:=x;dsimp only [yJ] at *
  have hex:(s.extract i s.size).size≤4611686018427387904:=by rw [ByteArray.size_extract];omega
  obtain ⟨A,c,rfl,adh,adi⟩:=hR.buf.shape;obtain ⟨B,d,rfl,acC,acD⟩:=hR.prt.shape;obtain ⟨Lt,qC⟩:∃ x,x=Lp++Lo:=⟨_,rfl⟩;rw [← qC] at hO ⊢;refine iM (N:=93) (T:=[(0,_)]) func234 rfl ntmps234 rfl rfl hO ?_;refine aj 2 ?_;intro a H;refine dI hmx [[],[0],[0,1],[0,1,2],[],[4],[4,5],[4,5,6],(ra 0 8),(ra 0 9),(ra 0 10)] [] (by kernel_rfl) [_,_,_,.string s,_,_,_,vi i,.string (s.extract i s.size),.bool (tC (s.extract i s.size) ⟨#[37,37]⟩),_] H (aF (Z0 rfl (Rm rfl)) (Z1 0 6 rfl (Rk rfl)) (Z1 1 7 rfl (Rf Ca rfl)) (Z1 2 8 rfl (Ro lY 0 rfl)) (aF (Z0 rfl (Rm rfl)) (Z1 4 10 rfl (Rk rfl)) (Z1 5 11 rfl (Rf yX rfl)) (Z1 6 12 rfl (Ro bC 0 rfl)) (aW ?_ (aW ?_ (aW (Z1 9 15 rfl (Ra rfl)) cZ))))) ?_
  · refine dP 3 9 7 13 rfl rfl fun _ a w G1 hG HT H fin=>?_;refine XG i jl H wn rfl rfl rfl (by omega) rfl ?_;clear H;intro a H;exact fin H iJ rfl
  · refine dM 8 14 rfl rfl fun _ a w G1 hG HT H fin=>?_;refine s_call TY H wn rfl (U8 _ _ H.ro _ _ hex (by decide)) rfl ?_;clear H;rintro v15 Ey a w ⟨rfl,rfl⟩ Hq H;exact fin H Hq (rfl)
  clear H;intro a w G nH H hv;have H:=H.aV (hv 10 5 rfl rfl) rfl;clear hv;refine t0 1 H ?_;clear H;refine goC 0 ?_ ?_
  · intro h5
    try have p5:=dT h5
    refine aj 4 ?_;intro a H;refine fu aaA (Li:=[]) (L:=ig b s i p (.slice A lit.length c) (.slice B parts.length d) pl e :: Lt) H wn rfl (by subst qC;exact agm _ Lp Lo _ b s i p _ B parts.length d pl e lit.length _ 37 hR.ptr (Hp.owns (Li:=[]) H.hp) hR.buf (by omega)) rfl ?_;clear H;rintro v19 _ L19 a w ⟨axF,Gj,rfl,zX,rfl⟩ oG H;dsimp only [List.nil_append] at H;obtain ⟨KF,c19,rfl,-,-⟩:=zX.shape;refine aH 9 H ?_;clear H;intro a H;refine bq bC 0 (vs:=[_]) _ H wn rfl rfl rfl rfl rfl rfl rfl rfl ?_;clear H;intro w H;dsimp only [List.set,setRow] at H;refine aI ?_;refine (leave0 H results234 ?_).2;exact H.hp.dO ⟨_,_,_,Lp,Gj,by rw [qh,au h5];rfl,by rw [qh,au h5];exact ⟨.inr rfl,by simpa [Lib.byteCells] using zX,hR.prt⟩⟩
  intro h5
  try have p5:=dF h5
  refine aj 7 ?_;intro a H;rw [show ((i:Int)+1)=((i+1:Nat):Int) from rfl] at H;refine fu aaB (Li:=[]) (L:=ig b s i p (.slice A lit.length c) (.slice B parts.length d) pl e :: Lt) H wn rfl (aae _ Lt _ b s i p _ _ pl e (i+1) (by omega) (Hp.owns (Li:=[]) H.hp)) rfl ?_;clear H;rintro v34 _ L34 a w ⟨rfl,rfl,rfl⟩ Qg H;dsimp only [List.nil_append] at H;refine fE 2 H ?_ ?_ <;> clear H
  · intro h27
    try have p27:=dT h27
    have hd1:=aad h27;refine aj 1 ?_;intro a H;refine dI hmx [[],[],[1],[1,2],[1,2,3],[],[5],[5,6],[5,6,7],(ra 5 4),(ra 1 9),(ra 0 11)] [11] (by kernel_rfl) [_,_,_,_,.string s,_,_,_,vi i,_,.int .u8 (gF s (i+1))] H (aF (Z0 rfl (Rm rfl)) (Z0 rfl (Rm rfl)) (Z1 1 36 rfl (Rk rfl)) (Z1 2 37 rfl (Rf Ca rfl)) (aF (Z1 3 38 rfl (Ro lY 0 rfl)) (Z0 rfl (Rm rfl)) (Z1 5 40 rfl (Rk rfl)) (Z1 6 41 rfl (Rf yX rfl)) (aF (Z1 7 42 rfl (Ro bC 0 rfl)) (Z1 8 43 rfl (Rd rfl)) ?_ (bS rfl) cZ))) ?_
    · refine dP 4 39 9 44 rfl rfl fun _ a w G1 hG HT H fin=>?_;refine qj (i+1) jl H wn rfl rfl rfl hd1.1 rfl ?_;clear H;intro a H;rw [← lS] at H;exact fin H iJ rfl
    clear H;intro a w G wU H hv;have H:=H.aV (hv 0 35 rfl rfl) rfl;have H:=H.aV (hv 10 45 rfl rfl) rfl;clear hv;refine fu aaC (Li:=[]) (L:=ig b s i p (.slice A lit.length c) (.slice B parts.length d) pl e :: Lt) H wn rfl (by subst qC;exact aeK _ Lp Lo _ b s i p _ _ pl e lit parts (gF s (i+1)) false hR (Hp.owns (Li:=[]) H.hp) (by omega) (by omega) hd1.2 (by omega)) rfl ?_;clear H;rintro v46 SE L46 a w ⟨p46,avo,q46,KX,KW,rfl,DT⟩ D7 H;dsimp only [List.nil_append] at H;obtain ⟨A46,c46,rfl,-,-⟩:=DT.buf.shape;obtain ⟨B46,d46,rfl,-,-⟩:=DT.prt.shape;refine aI ⟨rfl,?_⟩;refine dW ?_;refine dG 8 H ?_;clear H;intro a H;refine bq bC 0 (vs:=[_]) _ H wn rfl rfl rfl rfl rfl rfl rfl rfl ?_;clear H;intro w H;dsimp only [List.set,setRow] at H;refine aI ?_;refine (leave0 H results234 ?_).2;exact H.hp.dO ⟨_,_,_,KX,KW,by rw [qh,ah (by simp [h5]),au h27];rfl,by rw [qh,ah (by simp [h5]),au h27];exact DT⟩
  intro h27
  try have p27:=dF h27
  refine aj 1 ?_
  intro a H;by_cases c1:tC (s.extract i s.size) ⟨#[37,100]⟩=true
  · refine dI hmx [[],[0],[0,1],[0,1,2],[],[4],[4,5],[4,5,6],(ra 0 8),(ra 0 9),(ra 0 10),(ra 0 11),(ra 0 11),(ra 0 11++[12]),(ra 0 11++[12,13]),(ra 0 11++[12,13,14]),(ra 0 11++ra 12 4),(ra 0 17),(ra 0 18),(ra 0 19)] [] (by kernel_rfl) [_,_,_,.string s,_,_,_,vi i,.string (s.extract i s.size),.bool (tC (s.extract i s.size) ⟨#[37,100]⟩),.bool (decide (tC (s.extract i s.size) ⟨#[37,100]⟩=true)),_,_,(aK b 0),_,vi i,vi ((i+2:Nat):Int),.bool (wN s (i+2)),_,_] H (aF (Z0 rfl (Rm rfl)) (Z1 0 55 rfl (Rk rfl)) (Z1 1 56 rfl (Rf Ca rfl)) (Z1 2 57 rfl (Ro lY 0 rfl)) (aF (Z0 rfl (Rm rfl)) (Z1 4 59 rfl (Rk rfl)) (Z1 5 60 rfl (Rf yX rfl)) (Z1 6 61 rfl (Ro bC 0 rfl)) (aF ?_ ?_ ?_ (Z1 10 65 rfl (YM (aG c1) rfl)) (aF (Z1 10 65 rfl (YM (aG c1) rfl)) ?_ (Z2 13 68 10 65 rfl (YF yX (aG c1) rfl)) (Z2 14 69 10 65 rfl (YO bC 0 (aG c1) rfl)) (aF ?_ ?_ (Z2 10 65 17 72 rfl (Pt (aG c1) rfl)) (Z1 18 73 rfl (Ra rfl)) cZ))))) ?_
    · refine dP 3 58 7 62 rfl rfl fun _ a w G1 hG HT H fin=>?_;refine XG i jl H wn rfl rfl rfl (by omega) rfl ?_;clear H;intro a H;exact fin H iJ rfl
    · refine dM 8 63 rfl rfl fun _ a w G1 hG HT H fin=>?_;refine s_call TY H wn rfl (U8 _ _ H.ro _ _ hex (by decide)) rfl ?_;clear H;rintro v64 G64 a w ⟨rfl,rfl⟩ UQ H;exact fin H UQ (rfl)
    · refine dM 9 64 rfl rfl fun _ a w G1 hG HT H fin=>?_;refine aH 1 H ?_;clear H;intro a H;exact fin H iJ (by show _=_;simp)
    · refine dP 12 67 10 65 rfl rfl fun _ a w G1 hG HT H fin=>?_;refine uS H (wg H rfl rfl (aG c1)) rfl rfl ?_;clear H;intro a H;exact fin H iJ rfl
    · refine dP 15 70 10 65 rfl rfl fun _ a w G1 hG HT H fin=>?_;refine RA _ H (wg H rfl rfl (aG c1)) rfl rfl rfl (by omega) (by omega) rfl ?_;clear H;intro a H;exact fin H iJ rfl
    · refine tQ 11 66 16 71 10 65 rfl rfl fun _ a w G1 hG HT H fin=>?_;refine fu aaB (Li:=[]) (L:=ig b s i p (.slice A lit.length c) (.slice B parts.length d) pl e :: Lt) H (wg H rfl rfl (aG c1)) rfl (aae _ Lt _ b s i p _ _ pl e (i+2) (by omega) (Hp.owns (Li:=[]) H.hp)) rfl ?_;clear H;rintro v72 G72 L72 a w ⟨rfl,rfl,rfl⟩ anp H;dsimp only [List.nil_append] at H;exact fin H anp (rfl)
    clear H;intro a w G Ht H hv;have H:=H.aV (hv 19 54 rfl rfl) rfl;clear hv;refine t0 1 H ?_;clear H;refine goC 0 ?_ ?_
    · intro qz
      try have p54:=dT qz
      have hd2:=aad qz;refine aj 1 ?_;intro a H;refine dI hmx [[],[],[1],[1,2],[1,2,3],[],[5],[5,6],[5,6,7],(ra 5 4),(ra 1 9),(ra 0 11)] [11] (by kernel_rfl) [_,_,_,_,.string s,_,_,_,vi i,_,.int .u8 (gF s (i+2))] H (aF (Z0 rfl (Rm rfl)) (Z0 rfl (Rm rfl)) (Z1 1 75 rfl (Rk rfl)) (Z1 2 76 rfl (Rf Ca rfl)) (aF (Z1 3 77 rfl (Ro lY 0 rfl)) (Z0 rfl (Rm rfl)) (Z1 5 79 rfl (Rk rfl)) (Z1 6 80 rfl (Rf yX rfl)) (aF (Z1 7 81 rfl (Ro bC 0 rfl)) (Z1 8 82 rfl (Rd rfl)) ?_ (bS rfl) cZ))) ?_
      · refine dP 4 78 9 83 rfl rfl fun _ a w G1 hG HT H fin=>?_;refine qj (i+2) jl H wn rfl rfl rfl hd2.1 rfl ?_;clear H;intro a H;rw [← lS] at H;exact fin H iJ rfl
      clear H;intro a w G pW H hv;have H:=H.aV (hv 0 74 rfl rfl) rfl;have H:=H.aV (hv 10 84 rfl rfl) rfl;clear hv;refine fu aaC (Li:=[]) (L:=ig b s i p (.slice A lit.length c) (.slice B parts.length d) pl e :: Lt) H wn rfl (by subst qC;exact aeK _ Lp Lo _ b s i p _ _ pl e lit parts (gF s (i+2)) true hR (Hp.owns (Li:=[]) H.hp) (by omega) (by omega) hd2.2 (by omega)) rfl ?_;clear H;rintro v85 G85 L85 a w ⟨p46,avo,q46,KX,KW,rfl,DT⟩ awW H;dsimp only [List.nil_append] at H;obtain ⟨A46,c46,rfl,-,-⟩:=DT.buf.shape;obtain ⟨B46,d46,rfl,-,-⟩:=DT.prt.shape;refine aI ⟨rfl,?_⟩;refine dW ?_;refine dG 8 H ?_;clear H;intro a H;refine bq bC 0 (vs:=[_]) _ H wn rfl rfl rfl rfl rfl rfl rfl rfl ?_;clear H;intro w H;dsimp only [List.set,setRow] at H;refine aI ?_;refine (leave0 H results234 ?_).2
      have yu:¬ tC (s.extract i s.size) ⟨#[37,37]⟩=true:=by simp [h5]
      have yj:¬ wN s (i+1)=true:=by simp [h27]
      first
        | exact H.hp.dO ⟨_,_,_,KX,KW,by rw [qh,ah yu,ah yj,au ⟨c1,qz⟩];rfl,by rw [qh,ah yu,ah yj,au ⟨c1,qz⟩];exact DT⟩
        | (have Fh:¬ (tC (s.extract i s.size) ⟨#[37,100]⟩=true∧wN s (i+2)=true):=by simp_all
           exact H.hp.dO ⟨_,_,_,Lp,Lo,by rw [qh,ah yu,ah yj,ah Fh,qC],by rw [qh,ah yu,ah yj,ah Fh];exact hR⟩)
    intro qz
    try have p54:=dF qz
    refine aj 4 ?_;intro a H;refine bq iN 0 (vs:=[_]) _ H wn rfl rfl rfl rfl rfl rfl rfl rfl ?_;clear H;intro w H;dsimp only [List.set,setRow] at H;refine aI ?_;refine (leave0 H results234 ?_).2
    have yu:¬ tC (s.extract i s.size) ⟨#[37,37]⟩=true:=by simp [h5]
    have yj:¬ wN s (i+1)=true:=by simp [h27]
    first
      | exact H.hp.dO ⟨_,_,_,KX,KW,by rw [qh,ah yu,ah yj,au ⟨c1,qz⟩];rfl,by rw [qh,ah yu,ah yj,au ⟨c1,qz⟩];exact DT⟩
      | (have Fh:¬ (tC (s.extract i s.size) ⟨#[37,100]⟩=true∧wN s (i+2)=true):=by simp_all
         exact H.hp.dO ⟨_,_,_,Lp,Lo,by rw [qh,ah yu,ah yj,ah Fh,qC],by rw [qh,ah yu,ah yj,ah Fh];exact hR⟩)
  refine dI hmx [[],[0],[0,1],[0,1,2],[],[4],[4,5],[4,5,6],(ra 0 8),(ra 0 9),(ra 0 10),(ra 0 11),(ra 0 11),(ra 0 11++[12]),(ra 0 11++[12,13]),(ra 0 11++[12,13,14]),(ra 0 11++ra 12 4),(ra 0 17),(ra 0 18),(ra 0 19)] [] (by kernel_rfl) [_,_,_,.string s,_,_,_,vi i,.string (s.extract i s.size),.bool (tC (s.extract i s.size) ⟨#[37,100]⟩),.bool (decide (tC (s.extract i s.size) ⟨#[37,100]⟩=true)),undef,undef,undef,undef,undef,undef,undef,_,_] H (aF (Z0 rfl (Rm rfl)) (Z1 0 55 rfl (Rk rfl)) (Z1 1 56 rfl (Rf Ca rfl)) (Z1 2 57 rfl (Ro lY 0 rfl)) (aF (Z0 rfl (Rm rfl)) (Z1 4 59 rfl (Rk rfl)) (Z1 5 60 rfl (Rf yX rfl)) (Z1 6 61 rfl (Ro bC 0 rfl)) (aF ?_ ?_ ?_ (aO 10 (aN c1) rfl rfl) (aF (aO 10 (aN c1) rfl rfl) (aO 10 (aN c1) rfl rfl) (aO 10 (aN c1) rfl rfl) (aO 10 (aN c1) rfl rfl) (aF (aO 10 (aN c1) rfl rfl) (aO 10 (aN c1) rfl rfl) (Z2 10 65 17 72 rfl (Pf (aN c1) rfl)) (Z1 18 73 rfl (Ra rfl)) cZ))))) ?_
  · refine dP 3 58 7 62 rfl rfl fun _ a w G1 hG HT H fin=>?_;refine XG i jl H wn rfl rfl rfl (by omega) rfl ?_;clear H;intro a H;exact fin H iJ rfl
  · refine dM 8 63 rfl rfl fun _ a w G1 hG HT H fin=>?_;refine s_call TY H wn rfl (U8 _ _ H.ro _ _ hex (by decide)) rfl ?_;clear H;rintro v64 G64 a w ⟨rfl,rfl⟩ UQ H;exact fin H UQ (rfl)
  · refine dM 9 64 rfl rfl fun _ a w G1 hG HT H fin=>?_;refine aH 1 H ?_;clear H;intro a H;exact fin H iJ (by show _=_;simp)
  clear H;intro a w G Ht H hv;have H:=H.aV (hv 19 54 rfl rfl) rfl;clear hv;refine t0 6 H ?_;clear H;intro a H;refine bq iN 0 (vs:=[_]) _ H wn rfl rfl rfl rfl rfl rfl rfl rfl ?_;clear H;intro w H;dsimp only [List.set,setRow] at H;refine aI ?_;refine (leave0 H results234 ?_).2
  have yu:¬ tC (s.extract i s.size) ⟨#[37,37]⟩=true:=by simp [h5]
  have yj:¬ wN s (i+1)=true:=by simp [h27]
  first
    | exact H.hp.dO ⟨_,_,_,KX,KW,by rw [qh,ah yu,ah yj,au ⟨c1,qz⟩];rfl,by rw [qh,ah yu,ah yj,au ⟨c1,qz⟩];exact DT⟩
    | (have Fh:¬ (tC (s.extract i s.size) ⟨#[37,100]⟩=true∧wN s (i+2)=true):=by simp_all
       exact H.hp.dO ⟨_,_,_,Lp,Lo,by rw [qh,ah yu,ah yj,ah Fh,qC],by rw [qh,ah yu,ah yj,ah Fh];exact hR⟩)
end
section
open Go.RowKit
theorem akL:∀ args w,(callFunc 234 args).run prog w=.ok (.enter 234 args) w:=enters func234 rfl (by kernel_rfl)
def Ou (s:ByteArray) (i:Nat):UInt8:=if h:i < s.size then s[i] else 0
theorem ahe (s:ByteArray) (i:Nat):gF s i=((Ou s i).toNat:Int):=by
 unfold gF Ou;split <;> rfl
def pO (s:ByteArray) (x:wH):wH:=if gF s x.i=37 then qh s x else ⟨x.i+1,x.lit++[Ou s x.i],x.parts,x.pl,x.e⟩
def En (s:ByteArray):Nat→wH→wH
 | 0,x=>x
 | f+1,x=>if x.i < s.size∧x.e=0 then En s f (pO s x) else x
def mS (s:ByteArray) (x:wH):Nat:=if x.e=0 then s.size - x.i else 0
theorem afg {s:ByteArray} {f:Nat} {x:wH} (h:¬ (x.i < s.size∧x.e=0)):En s f x=x:=by
 cases f with
 | zero=>rfl
 | succ f=>rw [En,ah h]
theorem amG (lit:List UInt8) (parts:List jq):(wQ lit parts).length≤parts.length+1:=by unfold wQ;split <;> simp
theorem afv (s:ByteArray) (x:wH) (h:x.i < s.size∧x.e=0) (h1:x.lit.length≤x.i) (h2:x.parts.length≤2*x.i) (h3:x.pl≤x.i) :
  (pO s x).i≤x.i+3∧(pO s x).lit.length≤(pO s x).i∧(pO s x).parts.length≤2*(pO s x).i∧(pO s x).pl≤(pO s x).i∧mS s (pO s x) < mS s x∧mS s x≤s.size:=by
 have hf:=amG x.lit x.parts;have hm:mS s x=s.size - x.i:=au h.2
 unfold pO qh
 split
 ·split
  ·refine ⟨?_,?_,?_,?_,?_,?_⟩ <;> simp only [mS,jc,jS,List.length_nil] at*<;> simp only [h.2,if_true] at*<;> omega
  split
  ·refine ⟨?_,?_,?_,?_,?_,?_⟩ <;> simp only [mS,jc,jS,List.length_nil] at*<;> simp only [h.2,if_true] at*<;> omega
  split
  ·refine ⟨?_,?_,?_,?_,?_,?_⟩ <;> simp only [mS,jc,jS,List.length_nil] at*<;> simp only [h.2,if_true] at*<;> omega
  refine ⟨?_,?_,?_,?_,?_,?_⟩ <;> simp only [mS,jc,jS,List.length_nil] at*<;> simp only [h.2,if_true] at*<;> (try omega) <;> (simp;omega)
 refine ⟨?_,?_,?_,?_,?_,?_⟩ <;> simp only [mS,jc,jS,List.length_nil] at*<;> simp only [h.2,if_true] at*<;> omega
def CU:wH:=⟨0,[],[],0,0⟩
def kW (s:ByteArray):wH:=En s s.size CU
def wm (x:wH):Int:=if x.e=0∧9 < (x.pl:Int) then 9 else x.e
theorem atT (G:GH) (Oc Oa:OL) (w0:World) (b:Nat) (s:ByteArray) (p0 v0 q0:ak) (hR:BL b [] [] p0 v0 q0 Oc Oa) (hO:fM G (yJ b s CU p0 v0 q0 :: (Oc++Oa)) w0) (hs:s.size≤1073741824) :
  Calls prog 225 #[(aK b 0)] w0 (fB w0 G (yJ b s CU p0 v0 q0 :: (Oc++Oa)) fun u G' L'=>∃ p' v' q' rT jo,L'=ig b s (kW s).i p' v' q' (kW s).pl (wm (kW s)) :: (rT++jo)∧BL b [] (wQ (kW s).lit (kW s).parts) p' v' q' rT jo):=by
 obtain ⟨A0,c0,rfl,-,-⟩:=hR.buf.shape;obtain ⟨B0,d0,rfl,-,-⟩:=hR.prt.shape;refine iM (N:=68) (T:=[(0,_)]) func225 rfl ntmps225 rfl rfl hO ?_;intro a H;refine Dn (fun _ K1=>?_);refine LG ?_;skip;refine dD (ι:=Nat × wH × ak × Option Addr × Nat × Option Addr × Nat × OL × OL × GH) (Tc:=[(0,_)]) (Lc:=[]) (fun gh=>[]) (fun gh=>[yJ b s gh.2.1 gh.2.2.1 (.slice gh.2.2.2.1 gh.2.1.lit.length gh.2.2.2.2.1) (.slice gh.2.2.2.2.2.1 gh.2.1.parts.length gh.2.2.2.2.2.2.1)]++(gh.2.2.2.2.2.2.2.1++gh.2.2.2.2.2.2.2.2.1)) (fun gh=>gh.2.2.2.2.2.2.2.2.2) (fun gh=>BL b gh.2.1.lit gh.2.1.parts gh.2.2.1 (.slice gh.2.2.2.1 gh.2.1.lit.length gh.2.2.2.2.1) (.slice gh.2.2.2.2.2.1 gh.2.1.parts.length gh.2.2.2.2.2.2.1) gh.2.2.2.2.2.2.2.1 gh.2.2.2.2.2.2.2.2.1∧En s gh.1 gh.2.1=kW s∧mS s gh.2.1≤gh.1∧gh.1≤s.size∧gh.2.1.i≤s.size+3∧gh.2.1.lit.length≤gh.2.1.i∧gh.2.1.parts.length≤2*gh.2.1.i∧gh.2.1.pl≤gh.2.1.i) (fun gh=>gh.1) ((s.size,CU,p0,A0,c0,B0,d0,Oc,Oa,G)) (by exact (H).sub ⟨rfl,aY⟩) ?_ ?_
 ·exact ⟨hR,rfl,by simp [mS,CU],bX _,by simp [CU],by simp [CU],by simp [CU],by simp [CU]⟩
 clear H;rintro ⟨k,x,p,vA,vc,qA,qc,Lp,Lo,g⟩ a w hI H;dsimp only at hI H;obtain ⟨hR,hsc,hmk,hks,hxi,hx1,hx2,hx3⟩:=hI;dsimp only [lca,aQ] at H;refine Dn (fun _ K2=>?_);refine Dn (fun _ K3=>?_)
 by_cases c0:(x.i:Int) < (s.size:Int)
 ·skip
  by_cases c1:x.e=0
  ·skip;refine dI hmx [[],[0],[0,1],[0,1,2],[],[4],[4,5],[4,5,6],(ra 4 4),(ra 0 9),(ra 0 10),(ra 0 11),(ra 0 12),(ra 0 13),(ra 0 14),(ra 0 15),(ra 0 16)] [] (by kernel_rfl) [_,_,_,vi x.i,_,_,_,.string s,_,_,_,_,(aK b 0),_,vi x.e,_,_] H (aF (Z0 rfl (Rm rfl)) (Z1 0 2 rfl (Rk rfl)) (Z1 1 3 rfl (Rf yX rfl)) (Z1 2 4 rfl (Ro bC 0 rfl)) (aF (Z0 rfl (Rm rfl)) (Z1 4 6 rfl (Rk rfl)) (Z1 5 7 rfl (Rf Ca rfl)) (Z1 6 8 rfl (Ro lY 0 rfl)) (aF (Z1 7 9 rfl (Rv jl rfl)) (Z2 3 5 8 10 rfl (Rc rfl)) (Z1 9 11 rfl (Rm rfl)) (Z1 10 12 rfl (YM (aG c0) rfl)) (aF ?_ (Z2 12 14 10 12 rfl (YF GX (aG c0) rfl)) (Z2 13 15 10 12 rfl (YO iN 0 (aG c0) rfl)) (Z2 14 16 10 12 rfl (YC (aG c0) rfl)) (aW (Z2 10 12 15 17 rfl (Pt (aG c0) rfl)) cZ))))) ?_
   ·refine dP 11 13 10 12 rfl rfl fun _ a w G1 hG HT H fin=>?_;refine uS H (wg H rfl rfl (aG c0)) rfl rfl ?_;clear H;intro a H;exact fin H iJ rfl
   clear H;intro a w G abu H hv;have H:=H.aV (hv 16 18 rfl rfl) rfl;clear hv;refine aI ⟨rfl,?_⟩;refine K3 _ _ ?_;clear K3;refine Zy H rfl (aG c1) ?_;refine kP H (Kc K2 (SB (SQ fun _ K4=>SQ fun _ K5=>?_)));clear H K2;intro a H;refine dI hmx [[],[0],[0,1],[0,1,2],[],[4],[4,5],[4,5,6],(ra 0 8),(ra 0 9)] [] (by kernel_rfl) [_,_,_,.string s,_,_,_,vi x.i,.int .u8 (gF s x.i),_] H (aF (Z0 rfl (Rm rfl)) (Z1 0 19 rfl (Rk rfl)) (Z1 1 20 rfl (Rf Ca rfl)) (Z1 2 21 rfl (Ro lY 0 rfl)) (aF (Z0 rfl (Rm rfl)) (Z1 4 23 rfl (Rk rfl)) (Z1 5 24 rfl (Rf yX rfl)) (Z1 6 25 rfl (Ro bC 0 rfl)) (aW ?_ (aW (Z1 8 27 rfl (Rc rfl)) cZ)))) ?_
   ·refine dP 3 22 7 26 rfl rfl fun _ a w G1 hG HT H fin=>?_;refine qj x.i jl H wn rfl rfl rfl (by omega) rfl ?_;clear H;intro a H;rw [← lS] at H;exact fin H iJ rfl
   clear H;intro a w G nH H hv;have H:=H.aV (hv 9 28 rfl rfl) rfl;clear hv;refine aI ⟨rfl,?_⟩;refine K5 _ _ ?_;clear K5;refine Zx H rfl ?_ ?_
   ·intro EZ
    try have p28:=dT EZ
    refine kP H (SQ fun _ K6=>SC (Rm rfl ?_));clear H;intro a H;refine fu akL (Li:=[]) (L:=yJ b s x p (.slice vA x.lit.length vc) (.slice qA x.parts.length qc) :: (Lp++Lo)) H wn rfl (asq _ Lp Lo _ b s x p _ _ hR (Hp.owns (Li:=[]) H.hp) (by omega) (by omega) (by omega) (by omega) (by omega)) rfl ?_;clear H;rintro v30 Da L30 a w ⟨p',v',q',rT,jo,rfl,PW⟩ Fe H;dsimp only [List.nil_append] at H;have hst:pO s x=qh s x:=au p28;have hok:=afv s x ⟨by omega,c1⟩ hx1 hx2 hx3
    have hkk:k=(k - 1)+1:=by omega
    have VY:En s (k - 1) (pO s x)=kW s:=by rw [hkk,En,au ⟨by omega,c1⟩] at hsc;exact hsc
    rw [← hst] at H PW;obtain ⟨A30,c30,rfl,-,-⟩:=PW.buf.shape;obtain ⟨B30,d30,rfl,-,-⟩:=PW.prt.shape;refine aI ?_;refine K6 _ _ ?_;clear K6;refine Au ?_;refine bR ((k - 1,pO s x,p',A30,c30,B30,d30,rT,jo,Da)) (by exact (H).sub ⟨rfl,aY⟩) ?_ ?_
    ·(try dsimp only);exact ⟨PW,VY,by omega,by omega,by omega,by omega,by omega,by omega⟩
    first|omega|(dsimp only;omega)
   intro EZ
   try have p28:=dF EZ
   refine iE ?_;refine K4 _ _ ?_;clear K4;refine Dn (fun _ K7=>?_);refine dI hmx [[],[0],[0,1],[],[3],[3,4],[3,4,5],[],[7],[7,8],[7,8,9],(ra 3 8),(ra 0 12)] [12] (by kernel_rfl) [_,_,_,_,_,_,.string s,_,_,_,vi x.i,.int .u8 (gF s x.i)] H (aF (Z0 rfl (Rm rfl)) (Z1 0 31 rfl (Rk rfl)) (Z1 1 32 rfl (Rf amk rfl)) (Z0 rfl (Rm rfl)) (aF (Z1 3 34 rfl (Rk rfl)) (Z1 4 35 rfl (Rf Ca rfl)) (Z1 5 36 rfl (Ro lY 0 rfl)) (Z0 rfl (Rm rfl)) (aF (Z1 7 38 rfl (Rk rfl)) (Z1 8 39 rfl (Rf yX rfl)) (Z1 9 40 rfl (Ro bC 0 rfl)) ?_ (aW (bS rfl) cZ)))) ?_
   ·refine dP 6 37 10 41 rfl rfl fun _ a w G1 hG HT H fin=>?_;refine qj x.i jl H wn rfl rfl rfl (by omega) rfl ?_;clear H;intro a H;rw [← lS] at H;exact fin H iJ rfl
   clear H;intro a w G anc H hv;have H:=H.aV (hv 2 33 rfl rfl) rfl;have H:=H.aV (hv 11 42 rfl rfl) rfl;clear hv;refine fu aaA (Li:=[]) (L:=yJ b s x p (.slice vA x.lit.length vc) (.slice qA x.parts.length qc) :: (Lp++Lo)) H wn rfl (agm _ Lp Lo _ b s x.i p _ qA x.parts.length qc x.pl x.e x.lit.length _ (gF s x.i) hR.ptr (Hp.owns (Li:=[]) H.hp) hR.buf (by omega)) rfl ?_;clear H;rintro v43 _ L43 a w ⟨axG,KV,rfl,M4,rfl⟩ nK H;dsimp only [List.nil_append] at H;obtain ⟨NU,Oz,rfl,-,-⟩:=M4.shape;have hst:pO s x=⟨x.i+1,x.lit++[Ou s x.i],x.parts,x.pl,x.e⟩:=ah p28;have hok:=afv s x ⟨by omega,c1⟩ hx1 hx2 hx3
   have hkk:k=(k - 1)+1:=by omega
   have VY:En s (k - 1) (pO s x)=kW s:=by rw [hkk,En,au ⟨by omega,c1⟩] at hsc;exact hsc
   have anC:BL b (pO s x).lit (pO s x).parts (aK b 2) (.slice NU (pO s x).lit.length Oz) (.slice qA (pO s x).parts.length qc) Lp KV:=by
    rw [hst];exact ⟨.inr rfl,by simpa [Lib.byteCells,ahe] using M4,hR.prt⟩
   refine aI ⟨rfl,?_⟩;refine K7 _ _ ?_;clear K7;refine kP H (SC (Rm rfl (Rk rfl (Og yX bC 0 rfl rfl (Rd rfl (Rk rfl (Rf yX rfl ?_)))))));clear H;intro a H;refine bq bC 0 (vs:=[_]) _ H wn rfl rfl rfl rfl rfl rfl rfl rfl ?_;clear H;intro w H;dsimp only [List.set,setRow] at H;replace H:St _ _ _ _ _ _ (yJ b s (pO s x) (aK b 2) (.slice NU (pO s x).lit.length Oz) (.slice qA (pO s x).parts.length qc) :: (Lp++KV)) _ _ _:=H.cast (by rw [hst];simp [yJ,ig]);refine aI ?_;refine bR ((k - 1,pO s x,(aK b 2),NU,Oz,qA,qc,Lp,KV,_)) (by exact (H).sub ⟨rfl,aY⟩) ?_ ?_
   ·(try dsimp only);exact ⟨anC,VY,by omega,by omega,by omega,by omega,by omega,by omega⟩
   first|omega|(dsimp only;omega)
  skip;refine dI hmx [[],[0],[0,1],[0,1,2],[],[4],[4,5],[4,5,6],(ra 4 4),(ra 0 9),(ra 0 10),(ra 0 11),(ra 0 12),(ra 0 13),(ra 0 14),(ra 0 15),(ra 0 16)] [] (by kernel_rfl) [_,_,_,vi x.i,_,_,_,.string s,_,_,_,_,(aK b 0),_,vi x.e,_,_] H (aF (Z0 rfl (Rm rfl)) (Z1 0 2 rfl (Rk rfl)) (Z1 1 3 rfl (Rf yX rfl)) (Z1 2 4 rfl (Ro bC 0 rfl)) (aF (Z0 rfl (Rm rfl)) (Z1 4 6 rfl (Rk rfl)) (Z1 5 7 rfl (Rf Ca rfl)) (Z1 6 8 rfl (Ro lY 0 rfl)) (aF (Z1 7 9 rfl (Rv jl rfl)) (Z2 3 5 8 10 rfl (Rc rfl)) (Z1 9 11 rfl (Rm rfl)) (Z1 10 12 rfl (YM (aG c0) rfl)) (aF ?_ (Z2 12 14 10 12 rfl (YF GX (aG c0) rfl)) (Z2 13 15 10 12 rfl (YO iN 0 (aG c0) rfl)) (Z2 14 16 10 12 rfl (YC (aG c0) rfl)) (aW (Z2 10 12 15 17 rfl (Pt (aG c0) rfl)) cZ))))) ?_
  ·refine dP 11 13 10 12 rfl rfl fun _ a w G1 hG HT H fin=>?_;refine uS H (wg H rfl rfl (aG c0)) rfl rfl ?_;clear H;intro a H;exact fin H iJ rfl
  clear H;intro a w G abu H hv;have H:=H.aV (hv 16 18 rfl rfl) rfl;clear hv;refine aI ⟨rfl,?_⟩;refine K3 _ _ ?_;clear K3;refine Tm H rfl (aN c1) ?_;refine Au ?_;refine K1 _ _ ?_;clear K1;refine Dn (fun _ K8=>?_)
  have V9:x=kW s:=by
   rw [afg (by first|exact fun h=>c0 (by omega)|exact fun h=>c1 h.2)] at hsc;exact hsc
  subst V9;refine kP H (SC (Rm rfl ?_));clear H;intro a H;refine fu TW (Li:=[]) (L:=yJ b s (kW s) p (.slice vA (kW s).lit.length vc) (.slice qA (kW s).parts.length qc) :: (Lp++Lo)) H wn rfl (UA _ Lp Lo _ b s (kW s).i p _ _ (kW s).pl (kW s).e (kW s).lit (kW s).parts hR (Hp.owns (Li:=[]) H.hp) (by omega) (by omega)) rfl ?_;clear H;rintro v52 SF L52 a w ⟨p52,avp,q52,agS,agM,rfl,uH⟩ VB H;dsimp only [List.nil_append] at H;obtain ⟨A52,c52,rfl,-,-⟩:=uH.buf.shape;obtain ⟨B52,d52,rfl,-,-⟩:=uH.prt.shape;refine kH H (Kn K8 (SQ fun _ K9=>SC (Rm rfl (Rk rfl (Og GX iN 0 rfl rfl (Rc rfl (Rm rfl (Sp 58 rfl ?_ ?_)))))))) <;> clear H K8
  ·intro nU a H
   try have p58:=dT nU
   refine kH H (YM nU rfl ?_);clear H;intro a H;refine uS H (wg H rfl rfl nU) rfl rfl ?_;clear H;intro a H;refine kH H (YF abb nU rfl (YO bC 0 nU rfl (YC nU rfl (Pt nU rfl (Kn K9 (Cd rfl ?_ ?_)))))) <;> clear H K9
   ·intro h64 a H
    try have p64:=dT h64
    refine kP H (SC (Rm rfl (Rk rfl (Rf GX rfl ?_))));clear H;intro a H;refine bq iN 0 (vs:=[_]) _ H wn rfl rfl rfl rfl rfl rfl rfl rfl ?_;clear H;intro w H;dsimp only [List.set,setRow] at H;refine aI ?_;refine (leave0 H results225 ?_).2
    first
     | exact H.hp.dO ⟨_,_,_,_,_,by rw [wm,au ⟨by assumption,by assumption⟩],uH⟩
     | exact H.hp.dO ⟨_,_,_,_,_,by rw [wm,ah (by first|exact fun h=>p58 h.1|exact fun h=>p64 h.2)],uH⟩
   intro h64 a H
   try have p64:=dF h64
   refine iE ?_;refine (leave0 H results225 ?_).2
   first
    | exact H.hp.dO ⟨_,_,_,_,_,by rw [wm,au ⟨by assumption,by assumption⟩],uH⟩
    | exact H.hp.dO ⟨_,_,_,_,_,by rw [wm,ah (by first|exact fun h=>p58 h.1|exact fun h=>p64 h.2)],uH⟩
  intro nU a H
  try have p58:=dF nU
  refine kH H (zM nU rfl (Db nU rfl (Pf nU rfl (Kn K9 (Cf rfl rfl ?_)))));clear H K9;intro a H;refine iE ?_;refine (leave0 H results225 ?_).2
  first
   | exact H.hp.dO ⟨_,_,_,_,_,by rw [wm,au ⟨by assumption,by assumption⟩],uH⟩
   | exact H.hp.dO ⟨_,_,_,_,_,by rw [wm,ah (by first|exact fun h=>p58 h.1|exact fun h=>p64 h.2)],uH⟩
 skip;refine dI hmx [[],[0],[0,1],[0,1,2],[],[4],[4,5],[4,5,6],(ra 4 4),(ra 0 9),(ra 0 10),(ra 0 11),(ra 0 12),(ra 0 13),(ra 0 14),(ra 0 15),(ra 0 16)] [] (by kernel_rfl) [_,_,_,vi x.i,_,_,_,.string s,_,_,_,undef,undef,undef,undef,undef,_] H (aF (Z0 rfl (Rm rfl)) (Z1 0 2 rfl (Rk rfl)) (Z1 1 3 rfl (Rf yX rfl)) (Z1 2 4 rfl (Ro bC 0 rfl)) (aF (Z0 rfl (Rm rfl)) (Z1 4 6 rfl (Rk rfl)) (Z1 5 7 rfl (Rf Ca rfl)) (Z1 6 8 rfl (Ro lY 0 rfl)) (aF (Z1 7 9 rfl (Rv jl rfl)) (Z2 3 5 8 10 rfl (Rc rfl)) (Z1 9 11 rfl (Rm rfl)) (aO 10 (aN c0) rfl rfl) (aF (aO 10 (aN c0) rfl rfl) (aO 10 (aN c0) rfl rfl) (aO 10 (aN c0) rfl rfl) (aO 10 (aN c0) rfl rfl) (aW (Z2 10 12 15 17 rfl (Pf (aN c0) rfl)) cZ))))) ?_
 clear H;intro a w G abu H hv;have H:=H.aV (hv 16 18 rfl rfl) rfl;clear hv;refine aI ⟨rfl,?_⟩;refine K3 _ _ ?_;clear K3;refine Tm H rfl rfl ?_;refine Au ?_;refine K1 _ _ ?_;clear K1;refine Dn (fun _ Ao=>?_)
 have V9:x=kW s:=by
  rw [afg (by first|exact fun h=>c0 (by omega)|exact fun h=>c1 h.2)] at hsc;exact hsc
 subst V9;refine kP H (SC (Rm rfl ?_));clear H;intro a H;refine fu TW (Li:=[]) (L:=yJ b s (kW s) p (.slice vA (kW s).lit.length vc) (.slice qA (kW s).parts.length qc) :: (Lp++Lo)) H wn rfl (UA _ Lp Lo _ b s (kW s).i p _ _ (kW s).pl (kW s).e (kW s).lit (kW s).parts hR (Hp.owns (Li:=[]) H.hp) (by omega) (by omega)) rfl ?_;clear H;rintro v52 SF L52 a w ⟨p52,avp,q52,agS,agM,rfl,uH⟩ VB H;dsimp only [List.nil_append] at H;obtain ⟨A52,c52,rfl,-,-⟩:=uH.buf.shape;obtain ⟨B52,d52,rfl,-,-⟩:=uH.prt.shape;refine kH H (Kn Ao (SQ fun _ wF=>SC (Rm rfl (Rk rfl (Og GX iN 0 rfl rfl (Rc rfl (Rm rfl (Sp 58 rfl ?_ ?_)))))))) <;> clear H Ao
 ·intro nU a H
  try have p58:=dT nU
  refine kH H (YM nU rfl ?_);clear H;intro a H;refine uS H (wg H rfl rfl nU) rfl rfl ?_;clear H;intro a H;refine kH H (YF abb nU rfl (YO bC 0 nU rfl (YC nU rfl (Pt nU rfl (Kn wF (Cd rfl ?_ ?_)))))) <;> clear H wF
  ·intro h64 a H
   try have p64:=dT h64
   refine kP H (SC (Rm rfl (Rk rfl (Rf GX rfl ?_))));clear H;intro a H;refine bq iN 0 (vs:=[_]) _ H wn rfl rfl rfl rfl rfl rfl rfl rfl ?_;clear H;intro w H;dsimp only [List.set,setRow] at H;refine aI ?_;refine (leave0 H results225 ?_).2
   first
    | exact H.hp.dO ⟨_,_,_,_,_,by rw [wm,au ⟨by assumption,by assumption⟩],uH⟩
    | exact H.hp.dO ⟨_,_,_,_,_,by rw [wm,ah (by first|exact fun h=>p58 h.1|exact fun h=>p64 h.2)],uH⟩
  intro h64 a H
  try have p64:=dF h64
  refine iE ?_;refine (leave0 H results225 ?_).2
  first
   | exact H.hp.dO ⟨_,_,_,_,_,by rw [wm,au ⟨by assumption,by assumption⟩],uH⟩
   | exact H.hp.dO ⟨_,_,_,_,_,by rw [wm,ah (by first|exact fun h=>p58 h.1|exact fun h=>p64 h.2)],uH⟩
 intro nU a H
 try have p58:=dF nU
 refine kH H (zM nU rfl (Db nU rfl (Pf nU rfl (Kn wF (Cf rfl rfl ?_)))));clear H wF;intro a H;refine iE ?_;refine (leave0 H results225 ?_).2
 first
  | exact H.hp.dO ⟨_,_,_,_,_,by rw [wm,au ⟨by assumption,by assumption⟩],uH⟩
  | exact H.hp.dO ⟨_,_,_,_,_,by rw [wm,ah (by first|exact fun h=>p58 h.1|exact fun h=>p64 h.2)],uH⟩
end
section
open Go.RowKit
def Bz (c:Int):List Dat:=[.lf (.int .u8 c)]
theorem afE {G:GH} {c:Int} {cs:List ak} (h:aZ G (Bz c) cs):cs=[.int .u8 c]:=by
 simp only [Bz,aZ,ay] at h
 obtain ⟨_,_,rfl,⟨rfl,_⟩,rfl⟩:=h
 rfl
def Jj (s:ByteArray):List Int:=s.data.toList.map fun b=>(b.toNat:Int)
theorem ahu (G:GH) (l:List Int):bV G 1 (l.map Bz) (l.map fun c=>Value.int .u8 c):=by
 refine ⟨l.map fun c=>[.int .u8 c],by induction l with|nil=>rfl|cons x r ih=>simp [ih],by simp,fun j r cs hr hc=>?_⟩
 rw [om] at hr hc
 obtain ⟨x,hx,rfl⟩:=oO.1 hr
 rw [hx] at hc
 cases hc
 exact ⟨by simp only [Bz,aZ];exact ⟨_,_,rfl,by simp [ay,Value.oneCell'],rfl⟩,rfl⟩
theorem asW {G:GH} {sz b o n cap:Nat} {cur:Array ak} {e:TypeId} {fz:Nat × Nat} {rows:List (List Dat)} (hb:G b=some (.cells cur e fz)) (h:ay (fun k=>if k=b then some (.cells cur e (0,0)) else G k) (.sl sz rows) (.slice (some ⟨b,o,none⟩) n cap)) (hr:∀ r∈rows,∃ c,r=Bz c):ay G (.sl sz rows) (.slice (some ⟨b,o,none⟩) n cap):=by
 simp only [ay] at h ⊢
 obtain ⟨A,c,h1,h2,h3,h4⟩:=h
 refine ⟨A,c,h1,h2,h3,fun hn=>?_⟩
 obtain ⟨b',o',e',hrr⟩:=h4 hn
 injection h1 with e1
 subst e1
 injection e' with e2
 injection e2 with e3 e4
 subst e3;subst e4
 refine ⟨_,_,rfl,mY.mk fun k r hk=>?_⟩
 obtain ⟨cs,g1,g2,g3⟩:=hrr.get hk
 refine ⟨cs,g1,fun j u hj=>?_,?_⟩
 ·have:=g2 j u hj
  unfold aC at this ⊢
  simp only [if_true] at this
  rw [hb];exact this
 ·obtain ⟨c,rfl⟩:=hr r (mg hk)
  have:=afE g3
  subst this
  simp only [Bz,aZ];exact ⟨_,_,rfl,by simp [ay,Value.oneCell'],rfl⟩
section
variable {N:Nat} {D:List Deferred} {w0:World} {F:Nat→Prop} {G0 G:GH} {L:OL} {T:List (Nat × ak)}
variable {r:Option Nat} {P:Program} {ops:Array Oper} {Q:Exit→Act→World→Prop} {rest:List Oper} {a:Act} {w:World}
variable {d:Nat} {ty:TypeId} {pos:String} {aP:Array Edge} {g:Option (Nat × Bool)}
theorem avj {w:World} {b o n:Nat} {c:Array ak} {e:TypeId} {fz:Nat × Nat} (h:w.heap[b]?=some (.cells c e fz)) (hn:n≠0):∃ GZ,xP b (.cells c e GZ) w (w.freeze ⟨b,o,none⟩ n):=by
 unfold World.freeze
 rw [ah hn]
 refine ⟨if fz.1 == fz.2 then (o,o+n) else (min fz.1 o,max fz.2 (o+n)),rfl,rfl,rfl,by simp,?_,fun k hk=>?_⟩
 ·simp [Array.getElem?_modify,h]
 ·simp [Array.getElem?_modify,Ne.symm hk]
theorem atw {t u e:TypeId} {x:Operand} {s:ByteArray} (ht:P.underlying t=some .string) (hu:P.underlying u=some (.slice e)) (he:P.underlying e=some (.int .u8)) (H:St N D w0 F G0 G L T a w) (hw:Region.wanted ⟨some d,.convert t u x,ty,pos,aP,g⟩ (yielded ops a.tmps)=true) (hx:ev T x=some (.string s)) (hz:s.size≤4294967296) (hd:Nat.blt d N=true)
  (k:∀ v G' a' w',(∀ k o,G k=some o→G' k=some o)→ay G' (.sl 1 ((Jj s).map Bz)) v→St N D w0 F G0 G' L ((d,v) :: T) a' w'→WL r P ops Q rest a' w'):WL r P ops Q (⟨some d,.convert t u x,ty,pos,aP,g⟩ :: rest) a w:=by
 have hc:=Lib.run_convert_string_bytes (P:=P) w t u e s ht hu he
 have hge:=grownCap_ge w s.size 0 e
 have hml:s.size≤maxLen:=by
  have:maxLen=9223372036854775807:=rfl
  omega
 have hgm:=grownCap_le_maxLen w s.size 0 e hml
 have H1:=H.hp.drew.alloc (.cells (Lib.bytesCells w e s) e)
 have hw1:(w.drew.alloc (.cells (Lib.bytesCells w e s) e)).heap[w.drew.heap.size]?=some (.cells (Lib.bytesCells w e s) e (0,0)):=H1.own _ gP
 obtain ⟨fz,hu2⟩:=avj (o:=(Lib.bytesCells w e s).size) (n:=1) hw1 (by decide)
 have H2:=H1.upd (i:=0) rfl hu2
 have H3:St N D w0 F G0 G ((w.heap.size,.cells (Lib.bytesCells w e s) e fz) :: L) ((d,.slice (some ⟨w.heap.size,0,none⟩) s.size (grownCap w s.size 0 e)) :: T) (a.put (some d) (.slice (some ⟨w.heap.size,0,none⟩) s.size (grownCap w s.size 0 e))) (Lib.bytesWorld w e s):=H.put hd _ H2
 obtain ⟨G',hm,hb,H4⟩:=H3.dS
 have hlen:(Jj s).length=s.size:=by rw [Jj,bE,wJ];rfl
 have hrep:ay G' (.sl 1 ((Jj s).map Bz)) (.slice (some ⟨w.heap.size,0,none⟩) s.size (grownCap w s.size 0 e)):=by
  refine asW hb ?_ (fun r hr=>by obtain ⟨c,-,rfl⟩:=List.mem_map.1 hr;exact ⟨c,rfl⟩)
  refine ay.eT (cur:=Lib.bytesCells w e s) (e:=e) (n:=s.size) (cap:=grownCap w s.size 0 e) (by simp) (by rw [bE,hlen]) hge hgm ?_ (ahu _ _)
  rw [Lib.bytesCells,Array.toList_append,Nat.mul_one,List.take_left' (by rw [Array.toList_map,bE,wJ];rfl)]
  simp [Jj]
 have k2:=k _ _ _ _ hm hrep H4
 refine fQ (v:=.slice (some ⟨w.heap.size,0,none⟩) s.size (grownCap w s.size 0 e)) (w':=Lib.bytesWorld w e s) hw rfl ?_ k2
 simp only [execOp,H.ev hx,dX,hc,mM,tX]
theorem afb {t yt:TypeId} {x y:Operand} {p q:ByteArray} (H:St N D w0 F G0 G L T a w) (hw:Region.wanted ⟨some d,.binOp .lss t x y yt,ty,pos,aP,g⟩ (yielded ops a.tmps)=true) (hx:ev T x=some (.string p)) (hy:ev T y=some (.string q)) (hd:Nat.blt d N=true)
  (k:∀ a',St N D w0 F G0 G L ((d,.bool (Op.bytesLess p.toList q.toList)) :: T) a' w→WL r P ops Q rest a' w):WL r P ops Q (⟨some d,.binOp .lss t x y yt,ty,pos,aP,g⟩ :: rest) a w:=by
 refine fQ (v:=.bool (Op.bytesLess p.toList q.toList)) (w':=w) hw rfl ?_ (k _ (H.put hd _ H.hp))
 simp [execOp,H.ev hx,H.ev hy,dX,eqGuard,binOp,Op.stringOp]
end
end
section
open Go.RowKit
theorem akK:∀ args w,(callFunc 233 args).run prog w=.ok (.enter 233 args) w:=enters func233 rfl (by kernel_rfl)
theorem akG:∀ args w,(callFunc 225 args).run prog w=.ok (.enter 225 args) w:=enters func225 rfl (by kernel_rfl)
theorem akE:∀ args w,(callFunc 223 args).run prog w=.ok (.enter 223 args) w:=enters func223 rfl (by kernel_rfl)
theorem auB:sV prog 289 [(0,1),(1,1),(2,2),(4,1),(5,1),(6,1)] [.string ⟨#[]⟩,.int .i64 0,.pointer none,.slice none 0 0,.slice none 0 0,.int .i64 0,.int .i64 0]:=⟨by kernel_rfl,by kernel_rfl⟩
theorem akH:∀ args w,(callFunc 226 args).run prog w=.ok (.enter 226 args) w:=enters func226 rfl (by kernel_rfl)
instance:dL prog 258 1 1:=⟨by kernel_rfl⟩
theorem akq:∀ args w,(callFunc 199 args).run prog w=.ok (.enter 199 args) w:=enters func199 rfl (by kernel_rfl)
theorem akr:∀ args w,(callFunc 200 args).run prog w=.ok (.enter 200 args) w:=enters func200 rfl (by kernel_rfl)
theorem akF:∀ args w,(callFunc 224 args).run prog w=.ok (.enter 224 args) w:=enters func224 rfl (by kernel_rfl)
theorem aks:∀ args w,(callFunc 201 args).run prog w=.ok (.enter 201 args) w:=enters func201 rfl (by kernel_rfl)
def SV (fv:ak) (G:GH) (c:Int) (b:Bool):Prop:=∀ (G1:GH) (w1:World),(∀ b o,G b=some o→G1 b=some o)→Hold G1 w1→wD prog fv [.int .u8 c] w1 (bB w1 G1 fun u G'=>u=.bool b)
theorem aqh (G:GH) (w0:World) (hG:Hold G w0) (l:List Int) (p:Int→Bool) (v fv:ak) (hv:ay G (.sl 1 (l.map Bz)) v) (hf:∀ c∈l,SV fv G c (p c)) :
  Calls prog 233 #[v,fv] w0 (bB w0 G fun u G'=>u=vi (nL (l.findIdx? p))):=by
 obtain ⟨A,c,rfl,hc1,hc2,hg⟩:=hv.slice;have hml:maxLen=9223372036854775807:=rfl;rw [bE] at *;refine eN [(0,_),(1,_)] func233 rfl ntmps233 rfl rfl hG ?_;refine aj 10 ?_;intro a H;refine dD (ι:=Nat × GH) (Tc:=[(0,_),(1,_),(7,_)]) (Lc:=[]) (fun gh=>[(8,vi gh.1)]) (fun gh=>[]) (fun gh=>gh.2) (fun gh=>gh.1≤l.length∧(l.take gh.1).findIdx? p=none∧(∀ b o,G b=some o→gh.2 b=some o)) (fun gh=>l.length - gh.1) ((0,G)) sB ?_ ?_
 ·exact ⟨by omega,rfl,fun _ _ h=>h⟩
 clear H;rintro ⟨k,g⟩ a w hI H;dsimp only at hI H;obtain ⟨hk,hno,hgm⟩:=hI;dsimp only [lca,aQ] at H;refine cK 4 H ?_ ?_ <;> clear H
 ·intro p9
  have hk2:k < l.length:=by omega
  obtain ⟨b,o,cs,rfl,hcl,hrow,hr⟩:=hg k (Bz l[k]) (by simp [hk2]);obtain rfl:=afE hr
  have hcell:aC G b (o+k*1)=some (.int .u8 l[k]):=by simpa using hrow 0 _ rfl
  refine aj 12 ?_;intro a H;refine iH X5 H wn rfl (H.hp.aC (aD hgm hcell)) rfl ?_;clear H;intro a H;refine nZ H wn rfl rfl (hf _ (iq hk2) _ _ hgm H.ro) rfl ?_;clear H;rintro v16 vg a w rfl vN H;refine fE 1 H ?_ ?_ <;> clear H
  ·intro h16
   try have p16:=dT h16
   refine aJ 4 ?_
   first
    | exact (by rw [xk hk2 hno h16];rfl)
    | exact (by rw [show l.take k=l from iL (by omega)] at hno;rw [hno];rfl)
  intro h16
  try have p16:=dF h16
  refine aj 4 ?_;intro a H;refine aI ?_;refine bR ((k+1,vg)) sB ?_ ?_
  ·(try dsimp only);exact ⟨by omega,Fq hk2 hno h16,fun b o h=>vN b o (hgm b o h)⟩
  first|omega|(dsimp only;omega)
 intro p9
 refine aJ 4 ?_
 first
  | exact (by rw [xk hk2 hno h16];rfl)
  | exact (by rw [show l.take k=l from iL (by omega)] at hno;rw [hno];rfl)
theorem Wv (o:Option Nat):decide (0≤nL o)=o.isSome:=by cases o <;> simp [nL]
theorem aiK (G:GH) (w0:World) (hG:Hold G w0) (l:List Int) (p:Int→Bool) (v fv:ak) (hv:ay G (.sl 1 (l.map Bz)) v) (hf:∀ c∈l,SV fv G c (p c)) :
  Calls prog 223 #[v,fv] w0 (bB w0 G fun u G'=>u=.bool (l.findIdx? p).isSome):=by
 obtain ⟨A,c,rfl,hc1,hc2,-⟩:=hv.slice;rw [bE] at *;refine eN [(0,_),(1,_)] func223 rfl ntmps223 rfl rfl hG ?_;refine aj 6 ?_;intro a H;refine s_call akK H wn rfl (aqh _ _ H.ro l p _ _ hv hf) rfl ?_;clear H;rintro v7 G7 a w rfl vO H;refine gK 3 H ?_;exact (dJ (Wv _))
def LQ (c:Int):Bool:=decide (c < 32) || decide (c=127)
theorem aiL (G:GH) (c:Int):SV (.func (.func 224) #[] #[]) G c (LQ c):=by
 intro G1 w0 hm hG;refine jM (caps:=[]) akF ?_;refine eN [(0,_)] func224 rfl ntmps224 rfl rfl hG ?_;refine gV 7 5 ?_ ?_
 ·intro p5
  refine aJ 5 ?_;exact (dJ (by unfold LQ;first|(simp_all;done)|(simp_all;omega)))
 intro p5
 refine aJ 5 ?_;exact (dJ (by unfold LQ;first|(simp_all;done)|(simp_all;omega)))
def zw (t:ByteArray):Int:=if 64 < t.size then 10 else if mX t=false then 12 else if ((Jj t).findIdx? LQ).isSome=true then 5 else wm (kW t)
def Ad (t:ByteArray):List jq:=if zw t=0 then wQ (kW t).lit (kW t).parts else []
theorem aqI (G:GH) (l:List jq):bV G 3 (l.map jq.dat) (Fv l):=by
 refine ⟨l.map jq.cells,rfl,by simp,fun j r cs hr hc=>?_⟩;rw [om] at hr hc;obtain ⟨x,hx,rfl⟩:=oO.1 hr;rw [hx] at hc
 cases hc
 exact ⟨adO G x,rfl⟩
theorem aso (G:GH) (w0:World) (hG:Hold G w0) (t:ByteArray) (ht:t.size < 4611686018427387904) :
  Calls prog 199 #[.string t] w0 (bB w0 G fun u G'=>∃ x,u=.tuple #[x,vi (zw t)]∧ay G' (.sl 3 ((Ad t).map jq.dat)) x):=by
 refine eN [(0,_)] func199 rfl ntmps199 rfl rfl hG ?_;refine goB 12 ?_ ?_
 ·intro p5
  have he:zw t=10:=by rw [zw,au (by omega)]
  refine aj 4 ?_;intro a H;refine dw ?_;refine (gu H results199 (.cons (bG H rfl) (.cons (bG H rfl) .nil)) ?_).1
  first
   | exact H.rt ⟨_,by rw [he0],by rw [Ad,au he0];exact hrep⟩
   | exact H.rt ⟨_,by rw [he],by rw [Ad,ah (by rw [he];first|decide|assumption)];exact ay.jB rfl (by decide)⟩
 intro p5
 refine aj 2 ?_;intro a H;refine s_call ER H wn rfl (FU _ _ H.ro t ht) rfl ?_;clear H;rintro v11 _ a w ⟨rfl,rfl⟩ - H;refine fE 3 H ?_ ?_ <;> clear H
 ·intro h9
  try have p9:=dT h9
  have he:zw t=12:=by rw [zw,ah (by omega),au (by simpa using h9)]
  refine aj 4 ?_;intro a H;refine dw ?_;refine (gu H results199 (.cons (bG H rfl) (.cons (bG H rfl) .nil)) ?_).1
  first
   | exact H.rt ⟨_,by rw [he0],by rw [Ad,au he0];exact hrep⟩
   | exact H.rt ⟨_,by rw [he],by rw [Ad,ah (by rw [he];first|decide|assumption)];exact ay.jB rfl (by decide)⟩
 intro h9
 try have p9:=dF h9
 refine aj 2 ?_;intro a H;refine atw jl NR Ky H wn rfl (by omega) rfl ?_;clear H;intro v15 Ey a w tH acZ H;obtain ⟨A15,c15,rfl,-,-,-⟩:=acZ.slice;refine s_call akE H wn rfl (aiK _ _ H.ro _ LQ _ _ acZ (fun c _=>aiL _ c)) rfl ?_;clear H;rintro v16 vg a w rfl vN H;refine fE 2 H ?_ ?_ <;> clear H
 ·intro oW
  try have oJ:=dT oW
  have he:zw t=5:=by rw [zw,ah (by omega),ah (by simpa using h9),au oW]
  refine aj 4 ?_;intro a H;refine dw ?_;refine (gu H results199 (.cons (bG H rfl) (.cons (bG H rfl) .nil)) ?_).1
  first
   | exact H.rt ⟨_,by rw [he0],by rw [Ad,au he0];exact hrep⟩
   | exact H.rt ⟨_,by rw [he],by rw [Ad,ah (by rw [he];first|decide|assumption)];exact ay.jB rfl (by decide)⟩
 intro oW
 try have oJ:=dF oW
 refine aj 3 ?_;intro a H;refine jZ auB [_,_,_,_,_,_,_] H wn rfl rfl rfl rfl ?_;clear H;intro a H;refine dN (cs:=[_,_,_,_,_,_,_]) H wn rfl rfl rfl ?_;clear H;intro b19 a w awk H;refine aH 5 H ?_;clear H;intro a H;refine fu akG (Li:=[]) (L:=[yJ b19 t CU (.pointer none) (.slice none 0 0) (.slice none 0 0)]) H wn rfl (atT _ [] [] _ b19 t _ _ _ ⟨.inl rfl,cB.nil,cB.nil⟩ (Hp.owns (Li:=[]) H.hp) (by omega)) rfl ?_;clear H;rintro v21 Sy L21 a w ⟨p',v',q',rT,jo,rfl,U6⟩ D5 H;dsimp only [List.nil_append] at H;obtain ⟨A21,c21,rfl,-,-⟩:=U6.buf.shape;obtain ⟨B21,d21,rfl,-,-⟩:=U6.prt.shape;refine aI ?_;refine dW ?_
 have he:zw t=wm (kW t):=by rw [zw,ah (by omega),ah (by simpa using h9),ah (by simp [oW])]
 refine cK 7 H ?_ ?_ <;> clear H
 ·intro p26
  refine aj 1 ?_;intro a H;have H:=H.sub (T':=[(4,_)]) ⟨rfl,aY⟩;refine dI hmx [[],[0],[0,1],[0,1,2],[],(ra 0 5)] [] (by kernel_rfl) [_,_,_,vi (wm (kW t)),_,_] H (aF (Z0 rfl (Rm rfl)) (Z1 0 27 rfl (Rk rfl)) (Z1 1 28 rfl (Rf GX rfl)) (Z1 2 29 rfl (Ro iN 0 rfl)) (aW (Z0 rfl (Ra rfl)) (aW (Z1 3 30 rfl (Ra rfl)) cZ))) ?_
  clear H;intro a w G nV H hv;have H:=H.aV (hv 4 2 rfl rfl) rfl;have H:=H.aV (hv 5 3 rfl rfl) rfl;clear hv;refine t0 1 H ?_;clear H;intro a H;refine dw ?_;refine (gu H results199 (.cons (bG H rfl) (.cons (bG H rfl) .nil)) ?_).1
  first
   | exact H.rt ⟨_,by rw [he0],by rw [Ad,au he0];exact hrep⟩
   | exact H.rt ⟨_,by rw [he],by rw [Ad,ah (by rw [he];first|decide|assumption)];exact ay.jB rfl (by decide)⟩
 intro p26
 refine aj 1 ?_
 have he0:zw t=0:=by rw [he];omega
 intro a H;have H:=(St.cast H (show _=[_]++(rT++jo) from rfl)).perm (List.Perm.append_left _ wK);have H:=St.un H;obtain ⟨Gr,hmr,hrep,H⟩:=St.vI (Li:=[_]++jo) (Lo:=rT) H U6.prt (rows:=(wQ (kW t).lit (kW t).parts).map jq.dat) (by simp) (aqI _ _);dsimp only [lca,aQ] at H;refine dG 8 H ?_;clear H;intro a H;refine dw ?_;refine (gu H results199 (.cons (bG H rfl) (.cons (bG H rfl) .nil)) ?_).1
 first
  | exact H.rt ⟨_,by rw [he0],by rw [Ad,au he0];exact hrep⟩
  | exact H.rt ⟨_,by rw [he],by rw [Ad,ah (by rw [he];first|decide|assumption)];exact ay.jB rfl (by decide)⟩
structure iZ where
 fmt:Int
 start:Int
 zx:ByteArray
 restart:Int
def iZ.dat (x:iZ):List Dat:=[li x.fmt,li x.start,.lf (.string x.zx),li x.restart]
abbrev iZ.cells (x:iZ):List ak:=[vi x.fmt,vi x.start,.string x.zx,vi x.restart]
theorem adQ {G:GH} {x:iZ} {cs:List ak} (h:aZ G x.dat cs):cs=x.cells:=by
 simp only [iZ.dat,aZ,ay] at h
 obtain ⟨_,_,rfl,⟨rfl,_⟩,_,_,rfl,⟨rfl,_⟩,_,_,rfl,⟨rfl,_⟩,_,_,rfl,⟨rfl,_⟩,rfl⟩:=h
 rfl
theorem aqf (G:GH) (w0:World) (hG:Hold G w0) (l:List jq) (p:jq→Bool) (v fv:ak) (hv:ay G (.sl 3 (l.map jq.dat)) v) (hf:∀ x∈l,rV fv G x.dat (p x)) :
  Calls prog 226 #[v,fv] w0 (bB w0 G fun u G'=>u=vi (nL (l.findIdx? p))):=by
 obtain ⟨A,c,rfl,hc1,hc2,hg⟩:=hv.slice;have hml:maxLen=9223372036854775807:=rfl;rw [bE] at *;refine eN [(0,_),(1,_)] func226 rfl ntmps226 rfl rfl hG ?_;refine aj 10 ?_;intro a H;refine dD (ι:=Nat × GH) (Tc:=[(0,_),(1,_),(7,_)]) (Lc:=[]) (fun gh=>[(8,vi gh.1)]) (fun gh=>[]) (fun gh=>gh.2) (fun gh=>gh.1≤l.length∧(l.take gh.1).findIdx? p=none∧(∀ b o,G b=some o→gh.2 b=some o)) (fun gh=>l.length - gh.1) ((0,G)) sB ?_ ?_
 ·exact ⟨by omega,rfl,fun _ _ h=>h⟩
 clear H;rintro ⟨k,g⟩ a w hI H;dsimp only at hI H;obtain ⟨hk,hno,hgm⟩:=hI;dsimp only [lca,aQ] at H;refine cK 4 H ?_ ?_ <;> clear H
 ·intro p9
  have hk2:k < l.length:=by omega
  obtain ⟨b,o,cs,rfl,hcl,hrow,hr⟩:=hg k l[k].dat (by simp [hk2]);obtain rfl:=adN hr;refine aj 12 ?_;intro a H;refine aT NM (cs:=l[k].cells) H wn rfl rfl (fun j v hj=>H.hp.aC (aD hgm (hrow j v hj))) rfl ?_;clear H;intro a H;refine nZ H wn rfl rfl (hf _ (iq hk2) _ _ _ hgm H.ro (adO _ l[k])) rfl ?_;clear H;rintro v16 vg a w rfl vN H;refine fE 1 H ?_ ?_ <;> clear H
  ·intro h16
   try have p16:=dT h16
   refine aJ 4 ?_
   first
    | exact (by rw [xk hk2 hno h16];rfl)
    | exact (by rw [show l.take k=l from iL (by omega)] at hno;rw [hno];rfl)
  intro h16
  try have p16:=dF h16
  refine aj 4 ?_;intro a H;refine aI ?_;refine bR ((k+1,vg)) sB ?_ ?_
  ·(try dsimp only);exact ⟨by omega,Fq hk2 hno h16,fun b o h=>vN b o (hgm b o h)⟩
  first|omega|(dsimp only;omega)
 intro p9
 refine aJ 4 ?_
 first
  | exact (by rw [xk hk2 hno h16];rfl)
  | exact (by rw [show l.take k=l from iL (by omega)] at hno;rw [hno];rfl)
theorem aiJ (G:GH) (w0:World) (hG:Hold G w0) (l:List jq) (p:jq→Bool) (v fv:ak) (hv:ay G (.sl 3 (l.map jq.dat)) v) (hf:∀ x∈l,rV fv G x.dat (p x)) :
  Calls prog 200 #[v,fv] w0 (bB w0 G fun u G'=>u=.bool (l.findIdx? p).isSome):=by
 obtain ⟨A,c,rfl,hc1,hc2,-⟩:=hv.slice;rw [bE] at *;refine eN [(0,_),(1,_)] func200 rfl ntmps200 rfl rfl hG ?_;refine aj 6 ?_;intro a H;refine s_call akH H wn rfl (aqf _ _ H.ro l p _ _ hv hf) rfl ?_;clear H;rintro v7 G7 a w rfl vO H;refine gK 3 H ?_;exact (dJ (Wv _))
theorem aqK {G:GH} {bl:Nat} {k:Int} (hb:aC G bl 0=some (vi k)) (x:jq):rV (.func (.func 201) #[] #[(aK bl 0)]) G x.dat (decide (k < x.level)):=by
 intro G1 w0 cs hm hG hr;refine jM (caps:=[(aK bl 0)]) aks ?_;obtain rfl:=adN hr;replace hb:=aD hm hb;refine eN [(0,_),(1,_)] func201 rfl ntmps201 rfl rfl hG ?_;refine aj 1 ?_;intro a H;refine dN (cs:=[_,_,_]) H wn rfl rfl rfl ?_;clear H;intro b2 a w hb2 H;refine gK 9 H ?_;exact rfl
def CB (t:ByteArray) (k:Int):Int:=if k < 1∨9 < k then 2 else if zw t=0∧((Ad t).findIdx? fun x=>decide (k < x.level)).isSome=true then 6 else zw t
theorem aqJ (G:GH) (w0:World) (hG:Hold G w0) (t:ByteArray) (k:Int) (ht:t.size < 4611686018427387904) :
  Calls prog 156 #[.string t,vi k] w0 (bB w0 G fun u G'=>u=vi (CB t k)):=by
 refine eN [(0,_),(1,_)] func156 rfl ntmps156 rfl rfl hG ?_;refine aj 1 ?_;intro a H;refine dN (cs:=[_]) H wn rfl rfl rfl ?_;clear H;intro b3 a w hb3 H;refine ku 7 9 H ?_ ?_ <;> clear H
 ·intro p9
  refine aJ 8 ?_;exact (aB vi (by unfold CB;(repeat' split) <;> first|rfl|(exfalso;simp_all;done)|(exfalso;simp_all;omega)|(simp_all;done)))
 intro p9
 refine goB 4 ?_ ?_
 ·intro lu
  refine aJ 3 ?_;exact (aB vi (by unfold CB;(repeat' split) <;> first|rfl|(exfalso;simp_all;done)|(exfalso;simp_all;omega)|(simp_all;done)))
 intro lu
 refine aj 1 ?_;intro a H;obtain ⟨Ga,hma,uJ,H⟩:=H.dS
 have hbk:aC Ga b3 0=some (vi k):=by unfold aC;rw [uJ];rfl
 refine dG 2 H ?_;clear H;intro a H;refine s_call akq H wn rfl (aso _ _ H.ro t ht) rfl ?_;clear H;rintro v15 Ey a w ⟨x15,rfl,adk⟩ tH H;obtain ⟨A15,c15,rfl,-,-,-⟩:=adk.slice;replace hbk:=aD tH hbk;refine aH 1 H ?_;clear H;intro a H;(iterate 2 refine qK H wn rfl rfl rfl ?_;clear H;intro a H);refine jA 8 20 H ?_ ?_ <;> clear H
 ·intro h20
  try have pJ:=dT h20
  refine aj 1 ?_;intro a H;refine pK H (wg H rfl rfl h20) rfl rfl ?_;clear H;intro a H;refine s_call akr H (wg H rfl rfl h20) rfl (aiJ _ _ H.ro _ (fun x=>decide (k < x.level)) _ _ adk (fun x _=>aqK hbk x)) rfl ?_;clear H;rintro v23 YG a w rfl Fb H;refine eO 2 H ?_ ?_ <;> clear H
  ·intro kN
   refine aJ 7 ?_;exact (aB vi (by unfold CB;(repeat' split) <;> first|rfl|(exfalso;simp_all;done)|(exfalso;simp_all;omega)|(simp_all;done)))
  intro kN
  refine aJ 5 ?_;exact (aB vi (by unfold CB;(repeat' split) <;> first|rfl|(exfalso;simp_all;done)|(exfalso;simp_all;omega)|(simp_all;done)))
 intro h20
 try have pJ:=dF h20
 refine aJ 11 ?_;exact (aB vi (by unfold CB;(repeat' split) <;> first|rfl|(exfalso;simp_all;done)|(exfalso;simp_all;omega)|(simp_all;done)))
end
section
open Go.RowKit
instance CZ:Ty prog 194 4 40 [.int .i64 0,.int .i64 0,.string ⟨#[]⟩,.int .i64 0] true:=⟨by kernel_rfl,by kernel_rfl⟩
theorem BA:prog.underlying 157=some (.slice 194):=by kernel_rfl
instance:kR prog 157 (.slice 194):=⟨BA⟩
instance:dL prog 194 0 0:=⟨by kernel_rfl⟩
instance:dL prog 194 1 1:=⟨by kernel_rfl⟩
instance:dL prog 194 2 2:=⟨by kernel_rfl⟩
theorem ajK:∀ args w,(callFunc 156 args).run prog w=.ok (.enter 156 args) w:=enters func156 rfl (by kernel_rfl)
instance:dL prog 194 3 3:=⟨by kernel_rfl⟩
def GN:Nat→List iZ→Int
 | _,[]=>0
 | i,x :: r=>if x.fmt < 1∨7 < x.fmt then 3 else if x.start < 0∨32767 < x.start then 2 else if CB x.zx ((i+1:Nat):Int)≠0 then CB x.zx ((i+1:Nat):Int) else if x.restart < 0∨(i:Int) < x.restart then 5 else GN (i+1) r
def dZ (l:List iZ):Int:=if l.length=0 then 11 else if 9 < l.length then 9 else GN 0 l
theorem jg {l:List iZ} {k:Nat} (h:k < l.length):GN k (l.drop k)=if l[k].fmt < 1∨7 < l[k].fmt then 3 else if l[k].start < 0∨32767 < l[k].start then 2 else if CB l[k].zx ((k+1:Nat):Int)≠0 then CB l[k].zx ((k+1:Nat):Int) else if l[k].restart < 0∨(k:Int) < l[k].restart then 5 else GN (k+1) (l.drop (k+1)):=by
 rw [jy h,GN]
theorem ZJ (G:GH) (w0:World) (hG:Hold G w0) (l:List iZ) (v:ak) (hv:ay G (.sl 4 (l.map iZ.dat)) v) (ht:∀ x∈l,x.zx.size < 4611686018427387904) :
  Calls prog 91 #[v] w0 (bB w0 G fun u G'=>u=vi (dZ l)):=by
 obtain ⟨A,c,rfl,hc1,hc2,hg⟩:=hv.slice;have hml:maxLen=9223372036854775807:=rfl;rw [bE] at *;refine eN [(0,_)] func91 rfl ntmps91 rfl rfl hG ?_;refine goB 11 ?_ ?_
 ·intro p6
  refine aJ 3 ?_
  first
   | exact (aB vi (by rw [dZ,au (by omega)]))
   | exact (aB vi (by rw [dZ,ah (by omega),au (by omega)]))
   | exact (aB vi (by rw [dZ,ah (by omega),ah (by omega),← he,jg hk2,au (by omega)]))
   | exact (aB vi (by rw [dZ,ah (by omega),ah (by omega),← he,jg hk2,ah (by omega),au (by omega)]))
   | exact (aB vi (by rw [dZ,ah (by omega),ah (by omega),← he,jg hk2,ah (by omega),ah (by omega),au p45]))
   | exact (aB vi (by rw [dZ,ah (by omega),ah (by omega),← he,jg hk2,ah (by omega),ah (by omega),ah p45,au (by omega)]))
   | exact (aB vi (by rw [dZ,ah (by omega),ah (by omega),← he,eX (by omega)];rfl))
 intro p6
 refine goB 6 ?_ ?_
 ·intro kE
  refine aJ 3 ?_
  first
   | exact (aB vi (by rw [dZ,au (by omega)]))
   | exact (aB vi (by rw [dZ,ah (by omega),au (by omega)]))
   | exact (aB vi (by rw [dZ,ah (by omega),ah (by omega),← he,jg hk2,au (by omega)]))
   | exact (aB vi (by rw [dZ,ah (by omega),ah (by omega),← he,jg hk2,ah (by omega),au (by omega)]))
   | exact (aB vi (by rw [dZ,ah (by omega),ah (by omega),← he,jg hk2,ah (by omega),ah (by omega),au p45]))
   | exact (aB vi (by rw [dZ,ah (by omega),ah (by omega),← he,jg hk2,ah (by omega),ah (by omega),ah p45,au (by omega)]))
   | exact (aB vi (by rw [dZ,ah (by omega),ah (by omega),← he,eX (by omega)];rfl))
 intro kE
 refine aj 8 ?_;intro a H;refine dD (ι:=Nat × GH) (Tc:=[(14,_),(15,_)]) (Lc:=[]) (fun gh=>[(16,vi gh.1)]) (fun gh=>[]) (fun gh=>gh.2) (fun gh=>gh.1≤l.length∧GN gh.1 (l.drop gh.1)=GN 0 l∧(∀ b o,G b=some o→gh.2 b=some o)) (fun gh=>l.length - gh.1) ((0,G)) sB ?_ ?_
 ·exact ⟨eG _,rfl,fun _ _ h=>h⟩
 clear H;rintro ⟨k,g⟩ a w hI H;dsimp only at hI H;obtain ⟨hk,he,hgm⟩:=hI;dsimp only [lca,aQ] at H;refine cK 4 H ?_ ?_ <;> clear H
 ·intro kF
  have hk2:k < l.length:=by omega
  obtain ⟨b,o,cs,rfl,hcl,hrow,hr⟩:=hg k l[k].dat (by simp [hk2]);obtain rfl:=adQ hr;refine aj 6 ?_;intro a H;refine aT CZ (cs:=l[k].cells) H wn rfl rfl (fun j v hj=>H.hp.aC (aD hgm (hrow j v hj))) rfl ?_;clear H;intro a H;refine dx CZ H wn rfl ?_;clear H;intro b4 a w hb4 H;refine aH 1 H ?_;clear H;intro a H;refine bq CZ 0 (vs:=[_,_,_,_]) _ H wn rfl rfl rfl rfl rfl rfl rfl rfl ?_;clear H;intro w H;dsimp only [List.set,setRow] at H;refine ku 8 25 H ?_ ?_ <;> clear H
  ·intro p25
   refine aJ 10 ?_
   first
    | exact (aB vi (by rw [dZ,au (by omega)]))
    | exact (aB vi (by rw [dZ,ah (by omega),au (by omega)]))
    | exact (aB vi (by rw [dZ,ah (by omega),ah (by omega),← he,jg hk2,au (by omega)]))
    | exact (aB vi (by rw [dZ,ah (by omega),ah (by omega),← he,jg hk2,ah (by omega),au (by omega)]))
    | exact (aB vi (by rw [dZ,ah (by omega),ah (by omega),← he,jg hk2,ah (by omega),ah (by omega),au p45]))
    | exact (aB vi (by rw [dZ,ah (by omega),ah (by omega),← he,jg hk2,ah (by omega),ah (by omega),ah p45,au (by omega)]))
    | exact (aB vi (by rw [dZ,ah (by omega),ah (by omega),← he,eX (by omega)];rfl))
  intro p25
  refine goB 6 ?_ ?_
  ·intro nN
   refine aJ 3 ?_
   first
    | exact (aB vi (by rw [dZ,au (by omega)]))
    | exact (aB vi (by rw [dZ,ah (by omega),au (by omega)]))
    | exact (aB vi (by rw [dZ,ah (by omega),ah (by omega),← he,jg hk2,au (by omega)]))
    | exact (aB vi (by rw [dZ,ah (by omega),ah (by omega),← he,jg hk2,ah (by omega),au (by omega)]))
    | exact (aB vi (by rw [dZ,ah (by omega),ah (by omega),← he,jg hk2,ah (by omega),ah (by omega),au p45]))
    | exact (aB vi (by rw [dZ,ah (by omega),ah (by omega),← he,jg hk2,ah (by omega),ah (by omega),ah p45,au (by omega)]))
    | exact (aB vi (by rw [dZ,ah (by omega),ah (by omega),← he,eX (by omega)];rfl))
  intro nN
  refine gV 5 34 ?_ ?_
  ·intro p34
   refine aJ 10 ?_
   first
    | exact (aB vi (by rw [dZ,au (by omega)]))
    | exact (aB vi (by rw [dZ,ah (by omega),au (by omega)]))
    | exact (aB vi (by rw [dZ,ah (by omega),ah (by omega),← he,jg hk2,au (by omega)]))
    | exact (aB vi (by rw [dZ,ah (by omega),ah (by omega),← he,jg hk2,ah (by omega),au (by omega)]))
    | exact (aB vi (by rw [dZ,ah (by omega),ah (by omega),← he,jg hk2,ah (by omega),ah (by omega),au p45]))
    | exact (aB vi (by rw [dZ,ah (by omega),ah (by omega),← he,jg hk2,ah (by omega),ah (by omega),ah p45,au (by omega)]))
    | exact (aB vi (by rw [dZ,ah (by omega),ah (by omega),← he,eX (by omega)];rfl))
  intro p34
  refine goB 6 ?_ ?_
  ·intro p30
   refine aJ 3 ?_
   first
    | exact (aB vi (by rw [dZ,au (by omega)]))
    | exact (aB vi (by rw [dZ,ah (by omega),au (by omega)]))
    | exact (aB vi (by rw [dZ,ah (by omega),ah (by omega),← he,jg hk2,au (by omega)]))
    | exact (aB vi (by rw [dZ,ah (by omega),ah (by omega),← he,jg hk2,ah (by omega),au (by omega)]))
    | exact (aB vi (by rw [dZ,ah (by omega),ah (by omega),← he,jg hk2,ah (by omega),ah (by omega),au p45]))
    | exact (aB vi (by rw [dZ,ah (by omega),ah (by omega),← he,jg hk2,ah (by omega),ah (by omega),ah p45,au (by omega)]))
    | exact (aB vi (by rw [dZ,ah (by omega),ah (by omega),← he,eX (by omega)];rfl))
  intro p30
  refine aj 7 ?_;intro a H;rw [show ((k:Int)+1)=((k+1:Nat):Int) from rfl] at H;refine s_call ajK H wn rfl (aqJ _ _ H.ro l[k].zx ((k+1:Nat):Int) (ht _ (iq hk2))) rfl ?_;clear H;rintro v43 Am a w rfl nK H;refine eO 6 H ?_ ?_ <;> clear H
  ·intro p45
   refine aJ 4 ?_
   first
    | exact (aB vi (by rw [dZ,au (by omega)]))
    | exact (aB vi (by rw [dZ,ah (by omega),au (by omega)]))
    | exact (aB vi (by rw [dZ,ah (by omega),ah (by omega),← he,jg hk2,au (by omega)]))
    | exact (aB vi (by rw [dZ,ah (by omega),ah (by omega),← he,jg hk2,ah (by omega),au (by omega)]))
    | exact (aB vi (by rw [dZ,ah (by omega),ah (by omega),← he,jg hk2,ah (by omega),ah (by omega),au p45]))
    | exact (aB vi (by rw [dZ,ah (by omega),ah (by omega),← he,jg hk2,ah (by omega),ah (by omega),ah p45,au (by omega)]))
    | exact (aB vi (by rw [dZ,ah (by omega),ah (by omega),← he,eX (by omega)];rfl))
  intro p45
  refine gV 6 50 ?_ ?_
  ·intro p50
   refine aJ 10 ?_
   first
    | exact (aB vi (by rw [dZ,au (by omega)]))
    | exact (aB vi (by rw [dZ,ah (by omega),au (by omega)]))
    | exact (aB vi (by rw [dZ,ah (by omega),ah (by omega),← he,jg hk2,au (by omega)]))
    | exact (aB vi (by rw [dZ,ah (by omega),ah (by omega),← he,jg hk2,ah (by omega),au (by omega)]))
    | exact (aB vi (by rw [dZ,ah (by omega),ah (by omega),← he,jg hk2,ah (by omega),ah (by omega),au p45]))
    | exact (aB vi (by rw [dZ,ah (by omega),ah (by omega),← he,jg hk2,ah (by omega),ah (by omega),ah p45,au (by omega)]))
    | exact (aB vi (by rw [dZ,ah (by omega),ah (by omega),← he,eX (by omega)];rfl))
  intro p50
  refine goB 6 ?_ ?_
  ·intro p55
   refine aJ 3 ?_
   first
    | exact (aB vi (by rw [dZ,au (by omega)]))
    | exact (aB vi (by rw [dZ,ah (by omega),au (by omega)]))
    | exact (aB vi (by rw [dZ,ah (by omega),ah (by omega),← he,jg hk2,au (by omega)]))
    | exact (aB vi (by rw [dZ,ah (by omega),ah (by omega),← he,jg hk2,ah (by omega),au (by omega)]))
    | exact (aB vi (by rw [dZ,ah (by omega),ah (by omega),← he,jg hk2,ah (by omega),ah (by omega),au p45]))
    | exact (aB vi (by rw [dZ,ah (by omega),ah (by omega),← he,jg hk2,ah (by omega),ah (by omega),ah p45,au (by omega)]))
    | exact (aB vi (by rw [dZ,ah (by omega),ah (by omega),← he,eX (by omega)];rfl))
  intro p55
  refine aj 4 ?_;intro a H;refine aI ?_;refine bR ((k+1,Am)) (by exact (H.bY (Pl:=[_]) (bT:=[]) [] (by decide) rfl).sub ⟨rfl,rfl,rfl,aY⟩) ?_ ?_
  ·(try dsimp only);exact ⟨by omega,by rw [jg hk2,ah (by omega),ah (by omega),ah p45,ah (by omega)] at he;exact he,fun b o h=>nK b o (hgm b o h)⟩
  first|omega|(dsimp only;omega)
 intro kF
 refine aJ 4 ?_
 first
  | exact (aB vi (by rw [dZ,au (by omega)]))
  | exact (aB vi (by rw [dZ,ah (by omega),au (by omega)]))
  | exact (aB vi (by rw [dZ,ah (by omega),ah (by omega),← he,jg hk2,au (by omega)]))
  | exact (aB vi (by rw [dZ,ah (by omega),ah (by omega),← he,jg hk2,ah (by omega),au (by omega)]))
  | exact (aB vi (by rw [dZ,ah (by omega),ah (by omega),← he,jg hk2,ah (by omega),ah (by omega),au p45]))
  | exact (aB vi (by rw [dZ,ah (by omega),ah (by omega),← he,jg hk2,ah (by omega),ah (by omega),ah p45,au (by omega)]))
  | exact (aB vi (by rw [dZ,ah (by omega),ah (by omega),← he,eX (by omega)];rfl))
end
section
open Go.RowKit
instance oL:Ty prog 32 1 24 [.slice none 0 0] false:=⟨by kernel_rfl,by kernel_rfl⟩
theorem pQ:prog.underlying 32=some (.slice 159):=by kernel_rfl
instance:kR prog 32 (.slice 159):=⟨pQ⟩
instance og:Ty prog 159 2 32 [.int .i64 0,.slice none 0 0] true:=⟨by kernel_rfl,by kernel_rfl⟩
instance Dx:dL prog 159 0 0:=⟨by kernel_rfl⟩
instance CY:Ty prog 157 1 24 [.slice none 0 0] false:=⟨by kernel_rfl,by kernel_rfl⟩
theorem TL:∀ args w,(callFunc 131 args).run prog w=.ok (.enter 131 args) w:=enters func131 rfl (by kernel_rfl)
instance Dy:dL prog 159 1 1:=⟨by kernel_rfl⟩
theorem aaM:∀ args w,(callFunc 91 args).run prog w=.ok (.enter 91 args) w:=enters func91 rfl (by kernel_rfl)
theorem Js:∀ args w,(callFunc 101 args).run prog w=.ok (.enter 101 args) w:=enters func101 rfl (by kernel_rfl)
theorem akg:∀ args w,(callFunc 185 args).run prog w=.ok (.enter 185 args) w:=enters func185 rfl (by kernel_rfl)
theorem akf:∀ args w,(callFunc 184 args).run prog w=.ok (.enter 184 args) w:=enters func184 rfl (by kernel_rfl)
structure dz where
 id:Int
 levels:List iZ
def dz.dat (x:dz):List Dat:=[li x.id,.sl 4 (x.levels.map iZ.dat)]
structure eY where
 id:Int
 parent:Int
 author:ByteArray
 time:Int
 text:ByteArray
 done:Bool
def eY.dat (x:eY):List Dat:=[li x.id,li x.parent,.lf (.string x.author),li x.time,.lf (.string x.text),.lf (.bool x.done)]
abbrev eY.cells (x:eY):List ak:=[vi x.id,vi x.parent,.string x.author,vi x.time,.string x.text,.bool x.done]
structure iP where
 name:ByteArray
 value:ByteArray
def iP.dat (x:iP):List Dat:=[.lf (.string x.name),.lf (.string x.value)]
abbrev iP.cells (x:iP):List ak:=[.string x.name,.string x.value]
theorem Tz {G:GH} {x:eY} {cs:List ak} (h:aZ G x.dat cs):cs=x.cells:=by
 simp only [eY.dat,aZ,ay] at h
 obtain ⟨_,_,rfl,⟨rfl,_⟩,_,_,rfl,⟨rfl,_⟩,_,_,rfl,⟨rfl,_⟩,_,_,rfl,⟨rfl,_⟩,_,_,rfl,⟨rfl,_⟩,_,_,rfl,⟨rfl,_⟩,rfl⟩:=h
 rfl
theorem afY {G:GH} {x:iP} {cs:List ak} (h:aZ G x.dat cs):cs=x.cells:=by
 simp only [iP.dat,aZ,ay] at h
 obtain ⟨_,_,rfl,⟨rfl,_⟩,_,_,rfl,⟨rfl,_⟩,rfl⟩:=h
 rfl
theorem Ir {G:GH} {l:List dz} {A:Option Addr} {n c k:Nat} (hv:ay G (.sl 2 (l.map dz.dat)) (.slice A n c)) (hk:k < l.length):∃ b o B d,A=some ⟨b,o,none⟩∧(∀ j u,[vi l[k].id,.slice B l[k].levels.length d][j]?=some u→aC G b (o+k*2+j)=some u)∧ay G (.sl 4 (l[k].levels.map iZ.dat)) (.slice B l[k].levels.length d):=by
 obtain ⟨A',c',he,_,_,hg⟩:=hv.slice
 injection he with e1 e2 e3
 subst e1;obtain ⟨b,o,cs,h1,h2,h3,h4⟩:=hg k l[k].dat (by simp [hk])
 simp only [dz.dat,aZ] at h4
 obtain ⟨v1,_,rfl,⟨rfl,-⟩,v2,_,rfl,hl,rfl⟩:∃ v vs,cs=v :: vs∧ay G (li l[k].id) v∧∃ v2 vs2,vs=v2 :: vs2∧ay G (.sl 4 (l[k].levels.map iZ.dat)) v2∧vs2=[]:=h4;obtain ⟨B,d,rfl,-,-,-⟩:=hl.slice;rw [bE] at *;exact ⟨b,o,B,d,h1,h3,hl⟩
theorem aqE {G:GH} {bl:Nat} {l:List dz} {A:Option Addr} {n c:Nat} (hb:aC G bl 0=some (.slice A n c)) (hv:ay G (.sl 2 (l.map dz.dat)) (.slice A n c)):vk (.func (.func 185) #[] #[(aK bl 0)]) G l.length fun k=>(l[k]?.map dz.id).getD 0:=by
 intro k hk G1 w0 hm hG;refine jM (caps:=[(aK bl 0)]) akg ?_;replace hb:=aD hm hb
 obtain rfl:n=l.length:=by have:=hv.len;simpa using this
 obtain ⟨b,o,B,d,rfl,hrow,-⟩:=Ir (hv.mono hm) hk;have hq:=hrow 0 _ rfl;refine eN [(0,_),(1,_)] func185 rfl ntmps185 rfl rfl hG ?_;refine aJ 11 ?_;dsimp only;rw [dV hk];rfl
def yE (l:List dz) (i:Nat):Int:=bP [jJ (fun k=>(l[k]?.map dz.id).getD 0) i,dZ ((l[i]?.map dz.levels).getD [])]
theorem aqG {G:GH} {bl:Nat} {l:List dz} {A:Option Addr} {n c:Nat} (hb:aC G bl 0=some (.slice A n c)) (hv:ay G (.sl 2 (l.map dz.dat)) (.slice A n c)) (hl:l.length≤4294967296) (ht:∀ x∈l,∀ y∈x.levels,y.zx.size < 4611686018427387904):vk (.func (.func 184) #[] #[(aK bl 0)]) G l.length (yE l):=by
 intro k hk G1 w0 hm hG;refine jM (caps:=[(aK bl 0)]) akf ?_;replace hb:=aD hm hb;replace hv:=hv.mono hm;have hcb:=aqE hb hv
 obtain rfl:n=l.length:=by have:=hv.len;simpa using this
 obtain ⟨b,o,B,d,rfl,hrow,hlv⟩:=Ir hv hk;have hq:=hrow 1 _ rfl
 have he:yE l k=bP [jJ (fun k=>(l[k]?.map dz.id).getD 0) k,dZ l[k].levels]:=by unfold yE;rw [dV hk];rfl
 refine eN [(0,_),(1,_)] func184 rfl ntmps184 rfl rfl hG ?_;refine aj 4 ?_;intro a H;have H:=H.sub (T':=[(0,_),(1,_)]) ⟨rfl,rfl,aY⟩;refine dI hmx [[],[],[0,1],[],[],[3,4],[3,4,5],(ra 3 4),(ra 0 8),(ra 0 9),(ra 0 10),(ra 0 11)] [9,10,11] (by kernel_rfl) [_,.func (.func 185) #[] #[(aK bl 0)],vi (jJ (fun k=>(l[k]?.map dz.id).getD 0) k),_,_,_,_,_,vi (dZ l[k].levels)] H (aF (Z0 rfl (Rm rfl)) ?_ ?_ (X0 rfl fun hG=>Rg oL rfl (aD hG hb)) (aF (Z0 rfl (Rm rfl)) (Z2 3 7 4 8 rfl (Ri pQ og rfl rfl)) (Z1 5 9 rfl (Rf Dy rfl)) (X1 6 10 rfl fun hG=>Rg CY rfl (aD hG hq)) (aF ?_ (bS rfl) (bS rfl) (bS rfl) cZ))) ?_
 ·refine Df rfl fun _ a w G1 hG HT H fin=>?_;refine pK H wn rfl rfl ?_;clear H;intro a H;exact fin H iJ rfl
 ·refine dP 0 4 1 5 rfl rfl fun _ a w G1 hG HT H fin=>?_;refine s_call TL H wn rfl (Ws _ _ H.ro k _ _ (by omega) (fun i hi=>(hcb.mono hG) i (by omega))) rfl ?_;clear H;rintro v6 G6 a w rfl iw H;exact fin H iw (rfl)
 ·refine dM 7 11 rfl rfl fun _ a w G1 hG HT H fin=>?_;refine s_call aaM H wn rfl (ZJ _ _ H.ro _ _ (hlv.mono hG) (ht _ (iq hk))) rfl ?_;clear H;rintro v12 C9 a w rfl oD H;exact fin H oD (rfl)
 clear H;intro a w G nH H hv;have H:=H.aV (hv 2 6 rfl rfl) rfl;have H:=H.aV (hv 8 12 rfl rfl) rfl;clear hv;refine iy rQ iN [_,_] [_,_] H wn rfl rfl rfl rfl rfl (by intro i q h;match i,h with|0,h=>exact h|1,h=>exact h|n+2,h=>simp at h) rfl rfl ?_;clear H;intro b13 a w JE H;obtain ⟨oh,kV,JF,H⟩:=H.dS;refine s_call sj H wn rfl (sw _ _ H.ro _ _ (Ae JF)) rfl ?_;clear H;rintro v14 _ a w ⟨rfl,rfl⟩ - H;refine kH H (Ra rfl ?_);clear H;intro a H;refine aI ⟨rfl,?_⟩;refine dW ?_;refine wS 0 H ?_;rw [he]
def wM (l:List dz):Int:=bP [bK (decide (64 < (l.length:Int))) 9,fV (yE l) (min l.length 64)]
theorem vk.le {fv:ak} {G:GH} {n m:Nat} {E:Nat→Int} (h:vk fv G n E) (hm:m≤n):vk fv G m E:=fun i hi=>h i (by omega)
theorem ahX (G:GH) (w0:World) (hG:Hold G w0) (l:List dz) (v:ak) (hv:ay G (.sl 2 (l.map dz.dat)) v) (hl:l.length≤4294967296) (ht:∀ x∈l,∀ y∈x.levels,y.zx.size < 4611686018427387904) :
  Calls prog 127 #[v] w0 (bB w0 G fun u G'=>u=vi (wM l)):=by
 obtain ⟨A,c,rfl,hc1,hc2,-⟩:=hv.slice;rw [bE] at *;refine eN [(0,_)] func127 rfl ntmps127 rfl rfl hG ?_;refine aj 1 ?_;intro a H;refine dN (cs:=[_]) H wn rfl rfl rfl ?_;clear H;intro b1 a w hb1 H;refine aH 3 H ?_;clear H;intro a H;have H:=H.sub (T':=[(1,_)]) ⟨rfl,aY⟩;obtain ⟨Ga,hma,hb1',H⟩:=H.dS
 have hbl:aC Ga b1 0=some (.slice A l.length c):=by unfold aC;rw [hb1'];rfl
 have hcb:=aqG hbl (hv.mono hma) hl ht;refine dI hmx [[],[0],[0,1],[0,1,2],[],[4],[4,5],[],(ra 0 8),(ra 0 9),(ra 0 10),(ra 0 11)] [9,10,11] (by kernel_rfl) [_,_,_,vi (bK (decide (64 < (l.length:Int))) 9),_,_,vi ((min l.length 64:Nat):Int),.func (.func 184) #[] #[(aK b1 0)],vi (fV (yE l) (min l.length 64))] H (aF (X0 rfl fun hG=>Rg oL rfl (aD hG hbl)) (Z1 0 3 rfl (Rl pQ rfl)) (Z1 1 4 rfl (Rc rfl)) ?_ (aF (X0 rfl fun hG=>Rg oL rfl (aD hG hbl)) (Z1 4 7 rfl (Rl pQ rfl)) ?_ ?_ (aF ?_ (bS rfl) (bS rfl) (bS rfl) cZ))) ?_
 ·refine dM 2 5 rfl rfl fun _ a w G1 hG HT H fin=>?_;refine s_call jF H wn rfl (jK _ _ H.ro _ 9) rfl ?_;clear H;rintro v6 G6 a w ⟨rfl,-⟩ iw H;exact fin H iw (rfl)
 ·refine dM 5 8 rfl rfl fun _ a w G1 hG HT H fin=>?_;refine RF H wn rfl rfl rfl ?_;clear H;intro a H;exact fin H iJ (aB vi (by omega))
 ·refine Df rfl fun _ a w G1 hG HT H fin=>?_;refine pK H wn rfl rfl ?_;clear H;intro a H;exact fin H iJ rfl
 ·refine dP 6 9 7 10 rfl rfl fun _ a w G1 hG HT H fin=>?_;refine s_call Js H wn rfl (LA _ _ H.ro (min l.length 64) (yE l) _ (by omega) ((hcb.mono hG).le (Nat.min_le_left _ _))) rfl ?_;clear H;rintro v11 qM a w rfl lH H;exact fin H lH (rfl)
 clear H;intro a w G nH H hv;have H:=H.aV (hv 3 6 rfl rfl) rfl;have H:=H.aV (hv 8 11 rfl rfl) rfl;clear hv;refine iy rQ iN [_,_] [_,_] H wn rfl rfl rfl rfl rfl (by intro i q h;match i,h with|0,h=>exact h|1,h=>exact h|n+2,h=>simp at h) rfl rfl ?_;clear H;intro b12 a w DU H;obtain ⟨C9,A9,Hw,H⟩:=H.dS;refine s_call sj H wn rfl (sw _ _ H.ro _ _ (Ae Hw)) rfl ?_;clear H;rintro v13 _ a w ⟨rfl,rfl⟩ - H;refine kH H (Ra rfl ?_);clear H;intro a H;refine aI ⟨rfl,?_⟩;refine dW ?_;refine wS 0 H ?_;exact rfl
end
section
open Go.RowKit
theorem wB:prog.underlying 31=some (.slice 156):=by kernel_rfl
instance:kR prog 31 (.slice 156):=⟨wB⟩
instance jk:Ty prog 156 6 72 [.int .i64 0,.int .i64 0,.string ⟨#[]⟩,.int .i64 0,.int .i64 0,.slice none 0 0] true:=⟨by kernel_rfl,by kernel_rfl⟩
instance Ul:dL prog 156 1 1:=⟨by kernel_rfl⟩
instance amb:dL prog 156 2 2:=⟨by kernel_rfl⟩
instance BX:dL prog 156 0 0:=⟨by kernel_rfl⟩
theorem aaz:∀ args w,(callFunc 220 args).run prog w=.ok (.enter 220 args) w:=enters func220 rfl (by kernel_rfl)
theorem akp:∀ args w,(callFunc 197 args).run prog w=.ok (.enter 197 args) w:=enters func197 rfl (by kernel_rfl)
theorem akC:∀ args w,(callFunc 221 args).run prog w=.ok (.enter 221 args) w:=enters func221 rfl (by kernel_rfl)
theorem akD:∀ args w,(callFunc 222 args).run prog w=.ok (.enter 222 args) w:=enters func222 rfl (by kernel_rfl)
structure bH where
 id:Int
 kind:Int
 name:ByteArray
 base:Int
 next:Int
 props:List gB
def bH.dat (x:bH):List Dat:=[li x.id,li x.kind,.lf (.string x.name),li x.base,li x.next,.sl 2 (x.props.map gB.dat)]
theorem NG {G:GH} {x:bH} {cs:List ak} (h:aZ G x.dat cs):∃ A c,cs=[vi x.id,vi x.kind,.string x.name,vi x.base,vi x.next,.slice A x.props.length c]∧ay G (.sl 2 (x.props.map gB.dat)) (.slice A x.props.length c):=by
 simp only [bH.dat,aZ] at h
 obtain ⟨v1,_,rfl,h1,v2,_,rfl,h2,v3,_,rfl,h3,v4,_,rfl,h4,v5,_,rfl,h5,v6,_,rfl,h6,rfl⟩:=h
 simp only [ay] at h1 h2 h3 h4 h5
 obtain ⟨rfl,-⟩:=h1;obtain ⟨rfl,-⟩:=h2;obtain ⟨rfl,-⟩:=h3;obtain ⟨rfl,-⟩:=h4;obtain ⟨rfl,-⟩:=h5;obtain ⟨A,c,rfl,-,-,-⟩:=h6.slice;rw [bE] at *;exact ⟨A,c,rfl,h6⟩
theorem Bv {G:GH} {l:List bH} {A:Option Addr} {n c k:Nat} (hv:ay G (.sl 6 (l.map bH.dat)) (.slice A n c)) (hk:k < l.length):∃ b o pA pc,A=some ⟨b,o,none⟩∧(∀ j u,[vi l[k].id,vi l[k].kind,.string l[k].name,vi l[k].base,vi l[k].next,.slice pA l[k].props.length pc][j]?=some u→aC G b (o+k*6+j)=some u)∧ay G (.sl 2 (l[k].props.map gB.dat)) (.slice pA l[k].props.length pc) ∧
  aZ G l[k].dat [vi l[k].id,vi l[k].kind,.string l[k].name,vi l[k].base,vi l[k].next,.slice pA l[k].props.length pc]:=by
 obtain ⟨A',c',he,_,_,hg⟩:=hv.slice
 injection he with e1 e2 e3
 subst e1;obtain ⟨b,o,cs,h1,h2,h3,h4⟩:=hg k l[k].dat (by simp [hk]);obtain ⟨pA,pc,rfl,hp⟩:=NG h4;exact ⟨b,o,pA,pc,h1,h3,hp,h4⟩
def okB (x:Int):Bool:=decide (32≤x∧x≤126)
def Iy (s:ByteArray) (k:Nat):Bool:=(List.range k).all fun i=>okB (gF s i)
def oH (s:ByteArray):Bool:=decide (s.size≠0∧s.size≤40∧gF s 0≠32∧gF s (s.size - 1)≠32) && Iy s s.size
theorem aru (s:ByteArray) (k:Nat):Iy s (k+1)=(Iy s k && okB (gF s k)):=by simp [Iy,List.range_succ]
theorem Iz {s:ByteArray} {k:Nat} (hk:k < s.size) (h:okB (gF s k)=false):Iy s s.size=false:=by
 rw [Iy,List.all_eq_false];exact ⟨k,by simpa using hk,by simp [h]⟩
theorem QE (G:GH) (w0:World) (hG:Hold G w0) (s:ByteArray) (hs:s.size≤4611686018427387904):Calls prog 194 #[.string s] w0 (bB w0 G fun u G'=>u=.bool (oH s)):=by
 refine eN [(0,_)] func194 rfl ntmps194 rfl rfl hG ?_;refine iV 9 7 ?_ ?_
 ·intro h7
  try have p7:=dT h7
  refine aJ 22 ?_
  first
   | exact (dJ (by rw [oH,gD (by omega),uf]))
   | exact (dJ (by rw [oH,eZ (by omega),show s.size=k by omega,hno];rfl))
   | exact (dJ (by rw [oH,Iz (k:=k) (by omega) (gD (by omega)),Bool.and_false]))
 intro h7
 try have p7:=dF h7
 refine aj 1 ?_;intro a H;refine Bt jl H (wg H rfl rfl h7) rfl rfl ?_;clear H;refine iV 3 12 ?_ ?_
 ·intro h12
  try have lu:=dT h12
  refine aJ 17 ?_
  first
   | exact (dJ (by rw [oH,gD (by omega),uf]))
   | exact (dJ (by rw [oH,eZ (by omega),show s.size=k by omega,hno];rfl))
   | exact (dJ (by rw [oH,Iz (k:=k) (by omega) (gD (by omega)),Bool.and_false]))
 intro h12
 try have lu:=dF h12
 refine aj 1 ?_;intro a H;refine qj 0 jl H (wg H rfl rfl h12) rfl rfl rfl (by omega) rfl ?_;clear H;intro a H;rw [← lS] at H;refine jA 3 17 H ?_ ?_ <;> clear H
 ·intro jd
  try have kF:=dT jd
  refine aJ 12 ?_
  first
   | exact (dJ (by rw [oH,gD (by omega),uf]))
   | exact (dJ (by rw [oH,eZ (by omega),show s.size=k by omega,hno];rfl))
   | exact (dJ (by rw [oH,Iz (k:=k) (by omega) (gD (by omega)),Bool.and_false]))
 intro jd
 try have kF:=dF jd
 refine aj 2 ?_;intro a H;refine Bt jl H (wg H rfl rfl jd) rfl rfl ?_;clear H;intro a H;refine lC _ H (wg H rfl rfl jd) rfl rfl rfl (by omega) (by omega) rfl ?_;clear H;intro a H;refine qj (s.size - 1) jl H (wg H rfl rfl jd) rfl rfl (by omega) (by omega) rfl ?_;clear H;intro a H;rw [← lS] at H;refine eO 3 H ?_ ?_ <;> clear H
 ·intro kN
  refine aJ 3 ?_
  first
   | exact (dJ (by rw [oH,gD (by omega),uf]))
   | exact (dJ (by rw [oH,eZ (by omega),show s.size=k by omega,hno];rfl))
   | exact (dJ (by rw [oH,Iz (k:=k) (by omega) (gD (by omega)),Bool.and_false]))
 intro kN
 refine aj 8 ?_;intro a H;refine dD (ι:=Nat) (Tc:=[(0,_),(26,_)]) (Lc:=[]) (fun gh=>[(27,vi gh)]) (fun gh=>[]) (fun gh=>G) (fun gh=>gh≤s.size∧Iy s gh=true) (fun gh=>s.size - gh) (0) sB ?_ ?_
 ·exact ⟨eG _,rfl⟩
 clear H;intro k a w hI H;obtain ⟨hk,hno⟩:=hI;dsimp only [lca,aQ] at H;refine cK 4 H ?_ ?_ <;> clear H
 ·intro p28
  refine aj 10 ?_;intro a H;refine qj k jl H wn rfl rfl rfl (by omega) rfl ?_;clear H;intro a H;rw [← lS] at H;refine jA 2 34 H ?_ ?_ <;> clear H
  ·intro xX
   try have p34:=dT xX
   refine aJ 10 ?_
   first
    | exact (dJ (by rw [oH,gD (by omega),uf]))
    | exact (dJ (by rw [oH,eZ (by omega),show s.size=k by omega,hno];rfl))
    | exact (dJ (by rw [oH,Iz (k:=k) (by omega) (gD (by omega)),Bool.and_false]))
  intro xX
  try have p34:=dF xX
  refine aj 2 ?_;intro a H;refine qj k jl H (wg H rfl rfl xX) rfl rfl rfl (by omega) rfl ?_;clear H;intro a H;rw [← lS] at H;refine eO 3 H ?_ ?_ <;> clear H
  ·intro p39
   refine aJ 3 ?_
   first
    | exact (dJ (by rw [oH,gD (by omega),uf]))
    | exact (dJ (by rw [oH,eZ (by omega),show s.size=k by omega,hno];rfl))
    | exact (dJ (by rw [oH,Iz (k:=k) (by omega) (gD (by omega)),Bool.and_false]))
  intro p39
  refine aj 4 ?_;intro a H;refine aI ?_;refine bR ((k+1)) sB ?_ ?_
  ·exact ⟨by omega,by rw [aru,hno];simp [okB];omega⟩
  first|omega|(dsimp only;omega)
 intro p28
 refine aJ 4 ?_
 first
  | exact (dJ (by rw [oH,gD (by omega),uf]))
  | exact (dJ (by rw [oH,eZ (by omega),show s.size=k by omega,hno];rfl))
  | exact (dJ (by rw [oH,Iz (k:=k) (by omega) (gD (by omega)),Bool.and_false]))
theorem adw (G:GH) (w0:World) (hG:Hold G w0) (l:List bH) (p:bH→Bool) (v fv:ak) (hv:ay G (.sl 6 (l.map bH.dat)) v) (hf:∀ x∈l,rV fv G x.dat (p x)) :
  Calls prog 220 #[v,fv] w0 (bB w0 G fun u G'=>u=vi (nL (l.findIdx? p))):=by
 obtain ⟨A,c,rfl,hc1,hc2,-⟩:=hv.slice;have hml:maxLen=9223372036854775807:=rfl;rw [bE] at *;refine eN [(0,_),(1,_)] func220 rfl ntmps220 rfl rfl hG ?_;refine aj 10 ?_;intro a H;refine dD (ι:=Nat × GH) (Tc:=[(0,_),(1,_),(7,_)]) (Lc:=[]) (fun gh=>[(8,vi gh.1)]) (fun gh=>[]) (fun gh=>gh.2) (fun gh=>gh.1≤l.length∧(l.take gh.1).findIdx? p=none∧(∀ b o,G b=some o→gh.2 b=some o)) (fun gh=>l.length - gh.1) ((0,G)) sB ?_ ?_
 ·exact ⟨by omega,rfl,fun _ _ h=>h⟩
 clear H;rintro ⟨k,g⟩ a w hI H;dsimp only at hI H;obtain ⟨hk,hno,hgm⟩:=hI;dsimp only [lca,aQ] at H;refine cK 4 H ?_ ?_ <;> clear H
 ·intro p9
  have hk2:k < l.length:=by omega
  obtain ⟨b,o,pA,pc,rfl,hrow,hp,hrep⟩:=Bv (hv.mono hgm) hk2;refine aj 12 ?_;intro a H;refine aT jk (cs:=[_,_,_,_,_,_]) H wn rfl rfl (fun j v hj=>H.hp.aC (hrow j v hj)) rfl ?_;clear H;intro a H;refine nZ H wn rfl rfl (hf _ (iq hk2) _ _ _ hgm H.ro hrep) rfl ?_;clear H;rintro v16 vg a w rfl vN H;refine fE 1 H ?_ ?_ <;> clear H
  ·intro h16
   try have p16:=dT h16
   refine aJ 4 ?_
   first
    | exact (by rw [xk hk2 hno h16];rfl)
    | exact (by rw [show l.take k=l from iL (by omega)] at hno;rw [hno];rfl)
  intro h16
  try have p16:=dF h16
  refine aj 4 ?_;intro a H;refine aI ?_;refine bR ((k+1,vg)) sB ?_ ?_
  ·(try dsimp only);exact ⟨by omega,Fq hk2 hno h16,fun b o h=>vN b o (hgm b o h)⟩
  first|omega|(dsimp only;omega)
 intro p9
 refine aJ 4 ?_
 first
  | exact (by rw [xk hk2 hno h16];rfl)
  | exact (by rw [show l.take k=l from iL (by omega)] at hno;rw [hno];rfl)
def Nk (p q:ByteArray):Bool:=p.toList == q.toList
theorem amu {G:GH} {bk bn:Nat} {kind:Int} {name:ByteArray} (hk:aC G bk 0=some (vi kind)) (hn:aC G bn 0=some (.string name)) (x:bH):rV (.func (.func 221) #[] #[(aK bk 0),(aK bn 0)]) G x.dat (decide (x.kind=kind) && Nk x.name name):=by
 intro G1 w0 cs hm hG hr;refine jM (caps:=[(aK bk 0),(aK bn 0)]) akC ?_;obtain ⟨pA,pc,rfl,-⟩:=NG hr;replace hk:=aD hm hk;replace hn:=aD hm hn;refine eN [(0,_),(1,_),(2,_)] func221 rfl ntmps221 rfl rfl hG ?_;refine aj 1 ?_;intro a H;refine dN (cs:=[_,_,_,_,_,_]) H wn rfl rfl rfl ?_;clear H;intro b3 a w hb3 H;refine jA 8 9 H ?_ ?_ <;> clear H
 ·intro h9
  try have p9:=dT h9
  refine aj 3 ?_;intro a H;refine CQ H (wg H rfl rfl h9) rfl rfl rfl ?_;clear H;refine aJ 3 ?_;unfold Nk;simp_all
 intro h9
 try have p9:=dF h9
 refine aJ 7 ?_;unfold Nk;simp_all
theorem amt {G:GH} {bi:Nat} {id:Int} (hb:aC G bi 0=some (vi id)) (x:bH):rV (.func (.func 222) #[] #[(aK bi 0)]) G x.dat (decide (x.id=id)):=by
 intro G1 w0 cs hm hG hr;refine jM (caps:=[(aK bi 0)]) akD ?_;obtain ⟨pA,pc,rfl,-⟩:=NG hr;replace hb:=aD hm hb;refine eN [(0,_),(1,_)] func222 rfl ntmps222 rfl rfl hG ?_;refine aj 1 ?_;intro a H;refine dN (cs:=[_,_,_,_,_,_]) H wn rfl rfl rfl ?_;clear H;intro b2 a w hb2 H;refine gK 9 H ?_;exact rfl
def EW (l:List bH) (kind:Int) (name:ByteArray):Option Nat:=l.findIdx? fun x=>decide (x.kind=kind) && Nk x.name name
def O8 (l:List bH) (id:Int):Option Nat:=l.findIdx? fun x=>decide (x.id=id)
theorem adB (o:Option Nat):decide (0≤nL o)=o.isSome:=by cases o <;> simp [nL]
theorem amv (G:GH) (w0:World) (hG:Hold G w0) (l:List bH) (kind:Int) (name:ByteArray) (v:ak) (hv:ay G (.sl 6 (l.map bH.dat)) v) :
  Calls prog 195 #[v,vi kind,.string name] w0 (bB w0 G fun u G'=>u=.tuple #[vi (max (nL (EW l kind name)) 0),.bool (EW l kind name).isSome]):=by
 obtain ⟨A,c,rfl,hc1,hc2,-⟩:=hv.slice;rw [bE] at *;refine eN [(0,_),(1,_),(2,_)] func195 rfl ntmps195 rfl rfl hG ?_;refine aj 1 ?_;intro a H;refine dN (cs:=[_]) H wn rfl rfl rfl ?_;clear H;intro b4 a w hb4 H;refine dN (cs:=[_]) H wn rfl rfl rfl ?_;clear H;intro b5 a w hb5 H;refine aH 3 H ?_;clear H;intro a H;obtain ⟨Ga,hma,za,H⟩:=H.dS;obtain ⟨Gb,hmb,AZ,H⟩:=H.dS
 have q4:aC Gb b4 0=some (vi kind):=by unfold aC;rw [AZ];rfl
 have q5:aC Gb b5 0=some (.string name):=by unfold aC;rw [hmb _ _ za];rfl
 refine dG 2 H ?_;clear H;intro a H;refine pK H wn rfl rfl ?_;clear H;intro a H;refine s_call aaz H wn rfl (adw _ _ H.ro l (fun x=>decide (x.kind=kind) && Nk x.name name) _ _ ((hv.mono hma).mono hmb) (fun x _=>amu q4 q5 x)) rfl ?_;clear H;rintro v11 qM a w rfl DZ H;refine aH 4 H ?_;clear H;intro a H;refine FJ H wn rfl rfl rfl ?_;clear H;refine aj 5 ?_;intro a H;refine dw ?_;refine (gu H results195 (.cons (bG H rfl) (.cons (bG H rfl) .nil)) ?_).1;exact H.rt (by rw [← adB];rfl)
theorem amx (G:GH) (w0:World) (hG:Hold G w0) (l:List bH) (id:Int) (v:ak) (hv:ay G (.sl 6 (l.map bH.dat)) v) :
  Calls prog 197 #[v,vi id] w0 (bB w0 G fun u G'=>u=.tuple #[vi (max (nL (O8 l id)) 0),.bool (O8 l id).isSome]):=by
 obtain ⟨A,c,rfl,hc1,hc2,-⟩:=hv.slice;rw [bE] at *;refine eN [(0,_),(1,_)] func197 rfl ntmps197 rfl rfl hG ?_;refine aj 1 ?_;intro a H;refine dN (cs:=[_]) H wn rfl rfl rfl ?_;clear H;intro b3 a w hb3 H;refine aH 3 H ?_;clear H;intro a H;obtain ⟨Ga,hma,uJ,H⟩:=H.dS
 have q3:aC Ga b3 0=some (vi id):=by unfold aC;rw [uJ];rfl
 refine dG 2 H ?_;clear H;intro a H;refine pK H wn rfl rfl ?_;clear H;intro a H;refine s_call aaz H wn rfl (adw _ _ H.ro l (fun x=>decide (x.id=id)) _ _ (hv.mono hma) (fun x _=>amt q3 x)) rfl ?_;clear H;rintro v9 G9 a w rfl ze H;refine aH 4 H ?_;clear H;intro a H;refine FJ H wn rfl rfl rfl ?_;clear H;refine aj 5 ?_;intro a H;refine dw ?_;refine (gu H results197 (.cons (bG H rfl) (.cons (bG H rfl) .nil)) ?_).1;exact H.rt (by rw [← adB];rfl)
def Io (l:List bH) (kind id:Int):Bool:=match O8 l id with|some i=>decide ((l[i]?.map bH.kind)=some kind)|none=>false
theorem Wu (G:GH) (w0:World) (hG:Hold G w0) (l:List bH) (kind id:Int) (v:ak) (hv:ay G (.sl 6 (l.map bH.dat)) v) :
  Calls prog 154 #[v,vi kind,vi id] w0 (bB w0 G fun u G'=>u=.bool (Io l kind id)):=by
 obtain ⟨A,c,rfl,hc1,hc2,-⟩:=hv.slice;rw [bE] at *;refine eN [(0,_),(1,_),(2,_)] func154 rfl ntmps154 rfl rfl hG ?_;refine aj 6 ?_;intro a H;refine s_call akp H wn rfl (amx _ _ H.ro l id _ hv) rfl ?_;clear H;rintro v12 C9 a w rfl A9 H;obtain ⟨o,ho⟩:∃ o,o=O8 l id:=⟨_,rfl⟩;rw [← ho] at H;refine aH 1 H ?_;clear H;intro a H;(iterate 2 refine qK H wn rfl rfl rfl ?_;clear H;intro a H);refine jA 6 16 H ?_ ?_ <;> clear H
 ·intro h16
  try have p16:=dT h16
  obtain ⟨i,rfl⟩:=Option.isSome_iff_exists.1 h16
  have hil:i < l.length:=by
   obtain ⟨hi,-⟩:=List.findIdx?_eq_some_iff_getElem.1 ho.symm;exact hi
  intro a H;rw [show max (nL (some i)) 0=(i:Int) by simp [nL]] at H;obtain ⟨b,o',pA,pc,rfl,hrow,hp,hrep⟩:=Bv (hv.mono A9) hil;have r1:aC C9 b (o'+i*6+1)=some (vi l[i].kind):=hrow 1 _ rfl;refine gK 10 H ?_
  first
   | exact (dJ (by rw [Io,← ho];dsimp only;rw [dV hil];simp))
   | exact (dJ (by rw [Io,← ho];cases o <;> simp_all))
 intro h16
 try have p16:=dF h16
 refine aJ 10 ?_
 first
  | exact (dJ (by rw [Io,← ho];dsimp only;rw [dV hil];simp))
  | exact (dJ (by rw [Io,← ho];cases o <;> simp_all))
end
section
open Go.RowKit
section
variable {N:Nat} {D:List Deferred} {w0:World} {F:Nat→Prop} {G0 G:GH} {L Li Lo:OL} {T:List (Nat × ak)}
variable {r:Option Nat} {P:Program} {ops:Array Oper} {Q:Exit→Act→World→Prop} {rest:List Oper} {a:Act} {w:World}
variable {d:Nat} {ty:TypeId} {pos:String} {aP:Array Edge} {g:Option (Nat × Bool)}
theorem XF {t e:TypeId} {sz bytes:Nat} {zero:List ak} {agg:Bool} (hs:P.underlying t=some (.slice e)) (ht:Ty P e sz bytes zero agg) {x z:Operand} {A:Option Addr} {n c:Nat} (hi:Nat) {q:Int} (H:St N D w0 F G0 G L T a w)
  (hw:Region.wanted ⟨some d,.slice t x none (some z) none,ty,pos,aP,g⟩ (yielded ops a.tmps)=true) (hx:ev T x=some (.slice A n c)) (hz:ev T z=some (.int .i64 q)) (hq:q=(hi:Int)) (h2:hi≤c) (hd:Nat.blt d N=true)
  (k:∀ a',St N D w0 F G0 G L ((d,.slice A hi c) :: T) a' w→WL r P ops Q rest a' w):WL r P ops Q (⟨some d,.slice t x none (some z) none,ty,pos,aP,g⟩ :: rest) a w:=by
 subst hq
 refine fQ (v:=.slice A hi c) (w':=w) hw rfl ?_ (k _ (H.put hd _ H.hp))
 simp [execOp,H.ev hx,H.ev hz,Instr.sliceAt,Instr.slice,Instr.sliceBounds,Instr.sliceBound,dX,nO hs,ht.CO,asIntOf,h2]
 intro _
 cases A with
 | none=>rfl
 | some p=>simp [Addr.add]
end
end
section
open Go.RowKit
theorem OU:∀ args w,(callFunc 194 args).run prog w=.ok (.enter 194 args) w:=enters func194 rfl (by kernel_rfl)
theorem akn:∀ args w,(callFunc 195 args).run prog w=.ok (.enter 195 args) w:=enters func195 rfl (by kernel_rfl)
instance Um:dL prog 156 5 5:=⟨by kernel_rfl⟩
theorem ako:∀ args w,(callFunc 196 args).run prog w=.ok (.enter 196 args) w:=enters func196 rfl (by kernel_rfl)
theorem Ui:∀ args w,(callFunc 95 args).run prog w=.ok (.enter 95 args) w:=enters func95 rfl (by kernel_rfl)
theorem ay.pre {G:GH} {sz:Nat} {rows:List (List Dat)} {A:Option Addr} {n c:Nat} (h:ay G (.sl sz rows) (.slice A n c)) (k:Nat) (hk:k≤rows.length):ay G (.sl sz (rows.take k)) (.slice A k c):=by
 have h:=h.part 0 k (eG _) hk
 have e:(if c=0 then A else A.map (·.add (0*sz)))=A:=by
  split
  ·rfl
  cases A <;> simp [Addr.add]
 rw [e] at h
 simpa using h
theorem ajb (G:GH) (w0:World) (hG:Hold G w0) (kind:Int):Calls prog 196 #[vi kind] w0 (bB w0 G fun u G'=>u=vi (if kind=1 then 2 else 1)):=by
 refine eN [(0,_)] func196 rfl ntmps196 rfl rfl hG ?_;refine goB 8 ?_ ?_
 ·intro p4
  refine aJ 3 ?_;first|(rw [au (by omega)];done)|rw [ah (by omega)]
 intro p4
 refine aJ 4 ?_;first|(rw [au (by omega)];done)|rw [ah (by omega)]
def Ac (l:List bH) (k:Nat):Option Int:=if k=0 then none else l[k - 1]?.map bH.id
theorem Rj {l:List bH} {k:Nat} (h:k=0):Ac l k=none:=au h
def Jh (k:Int):Bool:=decide (k=20) || decide (k=1)
def mV (q:Option Int) (dup:Bool) (s:bH):Int :=
 if s.id < 1∨1073741824 < s.id then 18 else if q=some s.id then 7 else if J8 q s.id=true then 6 else if s.kind≠1∧s.kind≠2 then 3 else if oH s.name=false then 13 else if dup=true then 7
 else if s.props.any (fun p=>Jh p.key)=true then 4 else gY (if s.kind=1 then 2 else 1) s.props
def jf (l:List bH) (k:Nat) (s:bH):Int:=mV (Ac l k) (EW (l.take k) s.kind s.name).isSome s
theorem arW (G:GH) (w0:World) (hG:Hold G w0) (l:List bH) (k:Nat) (v:ak) (hv:ay G (.sl 6 (l.map bH.dat)) v) (hk:k < l.length) (hs:l[k].name.size≤4611686018427387904) :
  Calls prog 153 #[v,vi k] w0 (bB w0 G fun u G'=>u=vi (jf l k l[k])):=by
 obtain ⟨A,c,rfl,hc1,hc2,-⟩:=hv.slice;have hml:maxLen=9223372036854775807:=rfl;rw [bE] at *;obtain ⟨b,o,pA,pc,rfl,hrow,hp,hrep⟩:=Bv hv hk;obtain ⟨x,hx⟩:∃ x,x=l[k]:=⟨_,rfl⟩;rw [← hx] at hs hrow hp hrep ⊢;have hdp:∀ j v,[vi x.id,vi x.kind,.string x.name,vi x.base,vi x.next,.slice pA x.props.length pc][j]?=some v→aC G b (o+k*6+j)=some v:=hrow;obtain ⟨_,_,he0,awZ,axa,-⟩:=hp.slice
 injection he0 with _ he1 he2
 rw [bE] at *;subst he2
 obtain ⟨pk,hpk⟩:∃ pk,0 < k→aC G b (o+(k - 1)*6+0)=some (vi pk)∧Ac l k=some pk:=by
  by_cases h0:0 < k
  ·obtain ⟨b',o',_,_,he,hr',-,-⟩:=Bv hv (show k - 1 < l.length by omega)
   injection he with he
   injection he with e1 e2 e3
   subst e1;subst e2;exact ⟨_,fun _=>⟨hr' 0 _ rfl,by rw [Ac,ah (by omega),dV (by omega)];rfl⟩⟩
  exact ⟨0,fun h=>absurd h h0⟩
 refine eN [(0,_),(1,_)] func153 rfl ntmps153 rfl rfl hG ?_;refine aj 7 ?_;intro a H;refine aT jk (cs:=[_,_,_,_,_,_]) H wn rfl rfl (fun j v hj=>H.hp.aC (hrow j v hj)) rfl ?_;clear H;intro a H;refine dx jk H wn rfl ?_;clear H;intro b5 a w hb5 H;refine bq jk 0 (vs:=[_,_,_,_,_,_]) _ H wn rfl rfl rfl rfl rfl rfl rfl rfl ?_;clear H;intro w H;dsimp only [List.set,setRow] at H;refine aI ?_;refine dW ?_;refine oQ (ι:=GH) (Tc:=[(0,_),(1,_),(5,_)]) (Lc:=[(_,_)]) (fun gh=>[]) (fun gh=>[]) (fun gh=>gh) (fun gh=>¬ (x.id < 1∨1073741824 < x.id)∧¬ Ac l k=some x.id∧¬ J8 (Ac l k) x.id=true∧¬ (x.kind≠1∧x.kind≠2)∧¬ oH x.name=false∧(∀ b o,G b=some o→gh b=some o)) sB ?_ ?_
 ·refine wT 6 18 H ?_ ?_ <;> clear H
  ·intro nM
   refine aJ 10 ?_
   first
    | exact (aB vi e0.symm)
    | exact (aB vi e4.symm)
    | exact (aB vi e7.symm)
    | exact (aB vi e13.symm)
    | exact (aB vi e3.symm)
    | exact (aB vi e6.symm)
    | exact (aB vi (by rw [jf,mV,au (by omega)]))
  intro nM
  refine goB 6 ?_ ?_
  ·intro kM
   refine aJ 3 ?_
   first
    | exact (aB vi e0.symm)
    | exact (aB vi e4.symm)
    | exact (aB vi e7.symm)
    | exact (aB vi e13.symm)
    | exact (aB vi e3.symm)
    | exact (aB vi e6.symm)
    | exact (aB vi (by rw [jf,mV,au (by omega)]))
  intro kM
  refine aj 1 ?_
  intro a H;by_cases c0:0 < (k:Int)
  ·skip
   by_cases c1:x.id=pk
   ·refine dI hmx [[],[0],[0,1],[0,1,2],(ra 0 4),[0,1,2],[0,1,2],[0,1,2,6],[0,1,2,5,6,7],[0,1,2,5,6,7,8],[0,1,2,5,6,7,8,9],(ra 0 11),(ra 0 12),(ra 0 13)] [13] (by kernel_rfl) [_,_,_,_,vi x.id,_,_,vi ((k - 1:Nat):Int),_,_,_,_,_] H (aF (Z0 rfl (Rm rfl)) (Z1 0 24 rfl (Rc rfl)) (Z1 1 25 rfl (Rm rfl)) (Z1 2 26 rfl (YF BX (aG c0) rfl)) (aF (Z2 3 27 2 26 rfl (YO bC 0 (aG c0) rfl)) (Z1 2 26 rfl (YM (aG c0) rfl)) (Z1 2 26 rfl (YM (aG c0) rfl)) ?_ (aF (Z3 5 29 7 31 2 26 rfl (YI wB jk (aG c0) rfl rfl)) (Z2 8 32 2 26 rfl (YF BX (aG c0) rfl)) (X2 9 33 2 26 rfl fun hG=>YR bC (aG c0) rfl (aD hG (hpk (by omega)).1)) (Z3 4 28 10 34 2 26 rfl (YC (aG c0) rfl)) (aW (Z2 2 26 11 35 rfl (Pt (aG c0) rfl)) (aW (bS rfl) cZ))))) ?_
    ·refine dP 6 30 2 26 rfl rfl fun _ a w G1 hG HT H fin=>?_;refine lC _ H (wg H rfl rfl (aG c0)) rfl rfl rfl (by omega) (by omega) rfl ?_;clear H;intro a H;exact fin H iJ (by show _=_;first|rfl|exact aB vi (by omega))
    clear H;intro a w G sI H hv;have H:=H.aV (hv 12 36 rfl rfl) rfl;clear hv;refine t1 3 H ?_;clear H
    have e7:jf l k x=7:=by rw [jf,mV,ah (by omega),au (by rw [(hpk (by omega)).2,c1])]
    refine aJ 3 ?_
    first
     | exact (aB vi e0.symm)
     | exact (aB vi e4.symm)
     | exact (aB vi e7.symm)
     | exact (aB vi e13.symm)
     | exact (aB vi e3.symm)
     | exact (aB vi e6.symm)
     | exact (aB vi (by rw [jf,mV,au (by omega)]))
   refine dI hmx [[],[0],[0,1],[0,1,2],(ra 0 4),[0,1,2],[0,1,2],[0,1,2,6],[0,1,2,5,6,7],[0,1,2,5,6,7,8],[0,1,2,5,6,7,8,9],(ra 0 11),(ra 0 12),(ra 0 13)] [13] (by kernel_rfl) [_,_,_,_,vi x.id,_,_,vi ((k - 1:Nat):Int),_,_,_,_,_] H (aF (Z0 rfl (Rm rfl)) (Z1 0 24 rfl (Rc rfl)) (Z1 1 25 rfl (Rm rfl)) (Z1 2 26 rfl (YF BX (aG c0) rfl)) (aF (Z2 3 27 2 26 rfl (YO bC 0 (aG c0) rfl)) (Z1 2 26 rfl (YM (aG c0) rfl)) (Z1 2 26 rfl (YM (aG c0) rfl)) ?_ (aF (Z3 5 29 7 31 2 26 rfl (YI wB jk (aG c0) rfl rfl)) (Z2 8 32 2 26 rfl (YF BX (aG c0) rfl)) (X2 9 33 2 26 rfl fun hG=>YR bC (aG c0) rfl (aD hG (hpk (by omega)).1)) (Z3 4 28 10 34 2 26 rfl (YC (aG c0) rfl)) (aW (Z2 2 26 11 35 rfl (Pt (aG c0) rfl)) (aW (bS rfl) cZ))))) ?_
   ·refine dP 6 30 2 26 rfl rfl fun _ a w G1 hG HT H fin=>?_;refine lC _ H (wg H rfl rfl (aG c0)) rfl rfl rfl (by omega) (by omega) rfl ?_;clear H;intro a H;exact fin H iJ (by show _=_;first|rfl|exact aB vi (by omega))
   clear H;intro a w G sI H hv;have H:=H.aV (hv 12 36 rfl rfl) rfl;clear hv;refine t1 4 H ?_;clear H
   have q1:¬ (0 < (k:Int)∧x.id=pk):=by first|exact fun h=>c1 h.2|exact fun h=>c0 h.1
   have q1':¬ Ac l k=some x.id:=fun h=>q1 (by
    by_cases h0:0 < k
    ·rw [(hpk h0).2] at h
     injection h with h
     exact ⟨by omega,h.symm⟩
    rw [Rj (by omega)] at h
    cases h)
   intro a H;by_cases c3:x.id < pk
   ·refine dI hmx [[],[0],[0,1],[0,1,2],(ra 0 4),[0,1,2],[0,1,2],[0,1,2,6],[0,1,2,5,6,7],[0,1,2,5,6,7,8],[0,1,2,5,6,7,8,9],(ra 0 11),(ra 0 12),(ra 0 13)] [13] (by kernel_rfl) [_,_,_,_,vi x.id,_,_,vi ((k - 1:Nat):Int),_,_,_,_,_] H (aF (Z0 rfl (Rm rfl)) (Z1 0 38 rfl (Rc rfl)) (Z1 1 39 rfl (Rm rfl)) (Z1 2 40 rfl (YF BX (aG c0) rfl)) (aF (Z2 3 41 2 40 rfl (YO bC 0 (aG c0) rfl)) (Z1 2 40 rfl (YM (aG c0) rfl)) (Z1 2 40 rfl (YM (aG c0) rfl)) ?_ (aF (Z3 5 43 7 45 2 40 rfl (YI wB jk (aG c0) rfl rfl)) (Z2 8 46 2 40 rfl (YF BX (aG c0) rfl)) (X2 9 47 2 40 rfl fun hG=>YR bC (aG c0) rfl (aD hG (aD sI (hpk (by omega)).1))) (Z3 4 42 10 48 2 40 rfl (YC (aG c0) rfl)) (aW (Z2 2 40 11 49 rfl (Pt (aG c0) rfl)) (aW (bS rfl) cZ))))) ?_
    ·refine dP 6 44 2 40 rfl rfl fun _ a w G1 hG HT H fin=>?_;refine lC _ H (wg H rfl rfl (aG c0)) rfl rfl rfl (by omega) (by omega) rfl ?_;clear H;intro a H;exact fin H iJ (by show _=_;first|rfl|exact aB vi (by omega))
    clear H;intro a w G iw H hv;have H:=H.aV (hv 12 50 rfl rfl) rfl;clear hv;refine t1 3 H ?_;clear H
    have e6:jf l k x=6:=by rw [jf,mV,ah (by omega),ah q1',au (by rw [(hpk (by omega)).2];exact aG c3)]
    refine aJ 3 ?_
    first
     | exact (aB vi e0.symm)
     | exact (aB vi e4.symm)
     | exact (aB vi e7.symm)
     | exact (aB vi e13.symm)
     | exact (aB vi e3.symm)
     | exact (aB vi e6.symm)
     | exact (aB vi (by rw [jf,mV,au (by omega)]))
   refine dI hmx [[],[0],[0,1],[0,1,2],(ra 0 4),[0,1,2],[0,1,2],[0,1,2,6],[0,1,2,5,6,7],[0,1,2,5,6,7,8],[0,1,2,5,6,7,8,9],(ra 0 11),(ra 0 12),(ra 0 13)] [13] (by kernel_rfl) [_,_,_,_,vi x.id,_,_,vi ((k - 1:Nat):Int),_,_,_,_,_] H (aF (Z0 rfl (Rm rfl)) (Z1 0 38 rfl (Rc rfl)) (Z1 1 39 rfl (Rm rfl)) (Z1 2 40 rfl (YF BX (aG c0) rfl)) (aF (Z2 3 41 2 40 rfl (YO bC 0 (aG c0) rfl)) (Z1 2 40 rfl (YM (aG c0) rfl)) (Z1 2 40 rfl (YM (aG c0) rfl)) ?_ (aF (Z3 5 43 7 45 2 40 rfl (YI wB jk (aG c0) rfl rfl)) (Z2 8 46 2 40 rfl (YF BX (aG c0) rfl)) (X2 9 47 2 40 rfl fun hG=>YR bC (aG c0) rfl (aD hG (aD sI (hpk (by omega)).1))) (Z3 4 42 10 48 2 40 rfl (YC (aG c0) rfl)) (aW (Z2 2 40 11 49 rfl (Pt (aG c0) rfl)) (aW (bS rfl) cZ))))) ?_
   ·refine dP 6 44 2 40 rfl rfl fun _ a w G1 hG HT H fin=>?_;refine lC _ H (wg H rfl rfl (aG c0)) rfl rfl rfl (by omega) (by omega) rfl ?_;clear H;intro a H;exact fin H iJ (by show _=_;first|rfl|exact aB vi (by omega))
   clear H;intro a w G iw H hv;have H:=H.aV (hv 12 50 rfl rfl) rfl;clear hv;refine t1 3 H ?_;clear H;intro a H;refine gsx ?_
   have q2:¬ (0 < (k:Int)∧x.id < pk):=by first|exact fun h=>c3 h.2|exact fun h=>c0 h.1
   have q2':¬ J8 (Ac l k) x.id=true:=fun h=>q2 (by
    by_cases h0:0 < k
    ·rw [(hpk h0).2] at h;exact ⟨by omega,lQ h⟩
    rw [Rj (by omega)] at h
    cases h)
   refine wT 5 55 H ?_ ?_ <;> clear H
   ·intro p55
    refine goB 6 ?_ ?_
    ·intro p51
     have e3:jf l k x=3:=by rw [jf,mV,ah (by omega),ah q1',ah q2',au (by omega)]
     refine aJ 3 ?_
     first
      | exact (aB vi e0.symm)
      | exact (aB vi e4.symm)
      | exact (aB vi e7.symm)
      | exact (aB vi e13.symm)
      | exact (aB vi e3.symm)
      | exact (aB vi e6.symm)
      | exact (aB vi (by rw [jf,mV,au (by omega)]))
    intro p51
    refine aj 3 ?_;intro a H;refine s_call OU H wn rfl (QE _ _ H.ro x.name hs) rfl ?_;clear H;rintro v63 Gd a w rfl hm63 H;refine fE 3 H ?_ ?_ <;> clear H
    ·intro oZ
     try have p60:=dT oZ
     have e13:jf l k x=13:=by rw [jf,mV,ah (by omega),ah q1',ah q2',ah (by omega),au (by simpa using oZ)]
     refine aJ 3 ?_
     first
      | exact (aB vi e0.symm)
      | exact (aB vi e4.symm)
      | exact (aB vi e7.symm)
      | exact (aB vi e13.symm)
      | exact (aB vi e3.symm)
      | exact (aB vi e6.symm)
      | exact (aB vi (by rw [jf,mV,au (by omega)]))
    intro oZ
    try have p60:=dF oZ
    intro a H;refine iE ?_;refine ⟨Gd,sB,?_⟩;exact ⟨by omega,q1',q2',by omega,by simpa using oZ,fun b o h=>hm63 b o (iw b o (sI b o h))⟩
   intro p55
   refine aj 10 ?_;intro a H;refine s_call OU H wn rfl (QE _ _ H.ro x.name hs) rfl ?_;clear H;rintro v63 Gd a w rfl hm63 H;refine fE 3 H ?_ ?_ <;> clear H
   ·intro oZ
    try have p60:=dT oZ
    have e13:jf l k x=13:=by rw [jf,mV,ah (by omega),ah q1',ah q2',ah (by omega),au (by simpa using oZ)]
    refine aJ 3 ?_
    first
     | exact (aB vi e0.symm)
     | exact (aB vi e4.symm)
     | exact (aB vi e7.symm)
     | exact (aB vi e13.symm)
     | exact (aB vi e3.symm)
     | exact (aB vi e6.symm)
     | exact (aB vi (by rw [jf,mV,au (by omega)]))
   intro oZ
   try have p60:=dF oZ
   intro a H;refine iE ?_;refine ⟨Gd,sB,?_⟩;exact ⟨by omega,q1',q2',by omega,by simpa using oZ,fun b o h=>hm63 b o (iw b o (sI b o h))⟩
  refine dI hmx [[],[0],[0,1],[0,1,2],(ra 0 4),[0,1,2],[0,1,2],[0,1,2,6],[0,1,2,5,6,7],[0,1,2,5,6,7,8],[0,1,2,5,6,7,8,9],(ra 0 11),(ra 0 12),(ra 0 13)] [13] (by kernel_rfl) [_,_,_,undef,undef,undef,undef,undef,undef,undef,undef,undef,_] H (aF (Z0 rfl (Rm rfl)) (Z1 0 24 rfl (Rc rfl)) (Z1 1 25 rfl (Rm rfl)) (aO 2 (aN c0) rfl rfl) (aF (aO 2 (aN c0) rfl rfl) (aO 2 (aN c0) rfl rfl) (aO 2 (aN c0) rfl rfl) (aO 2 (aN c0) rfl rfl) (aF (aO 2 (aN c0) rfl rfl) (aO 2 (aN c0) rfl rfl) (aO 2 (aN c0) rfl rfl) (aO 2 (aN c0) rfl rfl) (aW (Z2 2 26 11 35 rfl (Pf (aN c0) rfl)) (aW (bS rfl) cZ))))) ?_
  clear H;intro a w G sI H hv;have H:=H.aV (hv 12 36 rfl rfl) rfl;clear hv;refine t1 4 H ?_;clear H
  have q1:¬ (0 < (k:Int)∧x.id=pk):=by first|exact fun h=>c1 h.2|exact fun h=>c0 h.1
  have q1':¬ Ac l k=some x.id:=fun h=>q1 (by
   by_cases h0:0 < k
   ·rw [(hpk h0).2] at h
    injection h with h
    exact ⟨by omega,h.symm⟩
   rw [Rj (by omega)] at h
   cases h)
  intro a H;refine dI hmx [[],[0],[0,1],[0,1,2],(ra 0 4),[0,1,2],[0,1,2],[0,1,2,6],[0,1,2,5,6,7],[0,1,2,5,6,7,8],[0,1,2,5,6,7,8,9],(ra 0 11),(ra 0 12),(ra 0 13)] [13] (by kernel_rfl) [_,_,_,undef,undef,undef,undef,undef,undef,undef,undef,undef,_] H (aF (Z0 rfl (Rm rfl)) (Z1 0 38 rfl (Rc rfl)) (Z1 1 39 rfl (Rm rfl)) (aO 2 (aN c0) rfl rfl) (aF (aO 2 (aN c0) rfl rfl) (aO 2 (aN c0) rfl rfl) (aO 2 (aN c0) rfl rfl) (aO 2 (aN c0) rfl rfl) (aF (aO 2 (aN c0) rfl rfl) (aO 2 (aN c0) rfl rfl) (aO 2 (aN c0) rfl rfl) (aO 2 (aN c0) rfl rfl) (aW (Z2 2 40 11 49 rfl (Pf (aN c0) rfl)) (aW (bS rfl) cZ))))) ?_
  clear H;intro a w G iw H hv;have H:=H.aV (hv 12 50 rfl rfl) rfl;clear hv;refine t1 3 H ?_;clear H;intro a H;refine gsx ?_
  have q2:¬ (0 < (k:Int)∧x.id < pk):=by first|exact fun h=>c3 h.2|exact fun h=>c0 h.1
  have q2':¬ J8 (Ac l k) x.id=true:=fun h=>q2 (by
   by_cases h0:0 < k
   ·rw [(hpk h0).2] at h;exact ⟨by omega,lQ h⟩
   rw [Rj (by omega)] at h
   cases h)
  refine wT 5 55 H ?_ ?_ <;> clear H
  ·intro p55
   refine goB 6 ?_ ?_
   ·intro p51
    have e3:jf l k x=3:=by rw [jf,mV,ah (by omega),ah q1',ah q2',au (by omega)]
    refine aJ 3 ?_
    first
     | exact (aB vi e0.symm)
     | exact (aB vi e4.symm)
     | exact (aB vi e7.symm)
     | exact (aB vi e13.symm)
     | exact (aB vi e3.symm)
     | exact (aB vi e6.symm)
     | exact (aB vi (by rw [jf,mV,au (by omega)]))
   intro p51
   refine aj 3 ?_;intro a H;refine s_call OU H wn rfl (QE _ _ H.ro x.name hs) rfl ?_;clear H;rintro v63 Gd a w rfl hm63 H;refine fE 3 H ?_ ?_ <;> clear H
   ·intro oZ
    try have p60:=dT oZ
    have e13:jf l k x=13:=by rw [jf,mV,ah (by omega),ah q1',ah q2',ah (by omega),au (by simpa using oZ)]
    refine aJ 3 ?_
    first
     | exact (aB vi e0.symm)
     | exact (aB vi e4.symm)
     | exact (aB vi e7.symm)
     | exact (aB vi e13.symm)
     | exact (aB vi e3.symm)
     | exact (aB vi e6.symm)
     | exact (aB vi (by rw [jf,mV,au (by omega)]))
   intro oZ
   try have p60:=dF oZ
   intro a H;refine iE ?_;refine ⟨Gd,sB,?_⟩;exact ⟨by omega,q1',q2',by omega,by simpa using oZ,fun b o h=>hm63 b o (iw b o (sI b o h))⟩
  intro p55
  refine aj 10 ?_;intro a H;refine s_call OU H wn rfl (QE _ _ H.ro x.name hs) rfl ?_;clear H;rintro v63 Gd a w rfl hm63 H;refine fE 3 H ?_ ?_ <;> clear H
  ·intro oZ
   try have p60:=dT oZ
   have e13:jf l k x=13:=by rw [jf,mV,ah (by omega),ah q1',ah q2',ah (by omega),au (by simpa using oZ)]
   refine aJ 3 ?_
   first
    | exact (aB vi e0.symm)
    | exact (aB vi e4.symm)
    | exact (aB vi e7.symm)
    | exact (aB vi e13.symm)
    | exact (aB vi e3.symm)
    | exact (aB vi e6.symm)
    | exact (aB vi (by rw [jf,mV,au (by omega)]))
  intro oZ
  try have p60:=dF oZ
  intro a H;refine iE ?_;refine ⟨Gd,sB,?_⟩;exact ⟨by omega,q1',q2',by omega,by simpa using oZ,fun b o h=>hm63 b o (iw b o (sI b o h))⟩
 clear H;intro g a w hI H;obtain ⟨q0,q1',q2',q3,q4,hgm⟩:=hI;dsimp only [lca,aQ] at H;refine Jy ?_;refine Jy ?_;have acY:=(hv.mono hgm).pre k (by rw [bE];omega);rw [← List.map_take] at acY;have apg:=hp.mono hgm;refine dI hmx [[],[],[0,1],[],[3],[],[5],(ra 0 7),(ra 0 8),(ra 0 9),(ra 0 9),(ra 0 10),(ra 0 12)] [12] (by kernel_rfl) [_,_,.slice (some ⟨b,o,none⟩) k c,_,vi x.kind,_,.string x.name,.tuple #[vi (max (nL (EW (l.take k) x.kind x.name)) 0),.bool (EW (l.take k) x.kind x.name).isSome],_,vi (max (nL (EW (l.take k) x.kind x.name)) 0),.bool (EW (l.take k) x.kind x.name).isSome,_] H (aF (Z0 rfl (Rm rfl)) (Z0 rfl (Rm rfl)) ?_ (Z0 rfl (Rf Ul rfl)) (aF (Z1 3 69 rfl (Ro bC 0 rfl)) (Z0 rfl (Rf amb rfl)) (Z1 5 71 rfl (Ro lY 0 rfl)) ?_ (aF (Z1 7 73 rfl (Rm rfl)) ?_ ?_ (Z1 9 74 rfl (Ra rfl)) (aW (bS rfl) cZ)))) ?_
 ·refine dP 0 66 1 67 rfl rfl fun _ a w G1 hG HT H fin=>?_;refine XF wB jk k H wn rfl rfl rfl (by omega) rfl ?_;clear H;intro a H;exact fin H iJ rfl
 ·refine tQ 2 68 4 70 6 72 rfl rfl fun _ a w G1 hG HT H fin=>?_;refine s_call akn H wn rfl (amv _ _ H.ro (l.take k) x.kind x.name _ (acY.mono hG)) rfl ?_;clear H;rintro v73 G73 a w rfl anq H;exact fin H anq (rfl)
 ·refine dM 8 65 rfl rfl fun _ a w G1 hG HT H fin=>?_;refine qK H wn rfl rfl rfl ?_;clear H;intro a H;exact fin H iJ rfl
 ·refine dM 8 65 rfl rfl fun _ a w G1 hG HT H fin=>?_;refine qK H wn rfl rfl rfl ?_;clear H;intro a H;exact fin H iJ rfl
 clear H;intro a w G oD H hv;have H:=H.aV (hv 10 75 rfl rfl) rfl;clear hv;refine t1 5 H ?_;clear H;refine goC 0 ?_ ?_
 ·intro Mq
  try have Xd:=dT Mq
  have e7:jf l k x=7:=by rw [jf,mV,ah (by omega),ah q1',ah q2',ah q3,ah q4,au Mq]
  refine aJ 3 ?_
  first
   | exact (aB vi e0.symm)
   | exact (aB vi e4.symm)
   | exact (aB vi e7.symm)
   | exact (aB vi e13.symm)
   | exact (aB vi e3.symm)
   | exact (aB vi e6.symm)
   | exact (aB vi (by rw [jf,mV,au (by omega)]))
 intro Mq
 try have Xd:=dF Mq
 refine aj 2 ?_
 have q5:¬ (EW (l.take k) x.kind x.name).isSome=true:=by simpa using Mq
 have Fp:=apg.mono oD;refine aj 7 ?_;intro a H;refine dD (ι:=Nat) (Tc:=[(5,_),(78,_),(79,_)]) (Lc:=[(_,_)]) (fun gh=>[(80,vi gh)]) (fun gh=>[]) (fun gh=>G) (fun gh=>gh≤x.props.length∧(x.props.take gh).any (fun p=>Jh p.key)=false) (fun gh=>x.props.length - gh) (0) sB ?_ ?_
 ·exact ⟨eG _,rfl⟩
 clear H;intro n a w hI H;obtain ⟨hn,hno⟩:=hI;dsimp only [lca,aQ] at H;refine cK 4 H ?_ ?_ <;> clear H
 ·intro yG
  have hn2:n < x.props.length:=by omega
  obtain ⟨pb,po,rfl,hrow2⟩:=Nz Fp hn2;have hrow:=hrow2;refine aj 5 ?_;intro a H;refine aT ql (cs:=[_,_]) H wn rfl rfl (fun j v hj=>H.hp.aC (hrow j v hj)) rfl ?_;clear H;intro a H;refine dx ql H wn rfl ?_;clear H;intro b9 a w qE H;refine bq ql 0 (vs:=[_,_]) _ H wn rfl rfl rfl rfl rfl rfl rfl rfl ?_;clear H;intro w H;dsimp only [List.set,setRow] at H;refine ku 6 87 H ?_ ?_ <;> clear H
  ·intro Nt
   refine aj 6 ?_
   have e4:jf l k x=4:=by
    rw [jf,mV,ah (by omega),ah q1',ah q2',ah q3,ah q4,ah q5,au];rw [List.any_eq_true];exact ⟨x.props[n],iq hn2,by simp [Jh];omega⟩
   refine aJ 3 ?_
   first
    | exact (aB vi e0.symm)
    | exact (aB vi e4.symm)
    | exact (aB vi e7.symm)
    | exact (aB vi e13.symm)
    | exact (aB vi e3.symm)
    | exact (aB vi e6.symm)
    | exact (aB vi (by rw [jf,mV,au (by omega)]))
  intro Nt
  refine goB 5 ?_ ?_
  ·intro zu
   have e4:jf l k x=4:=by
    rw [jf,mV,ah (by omega),ah q1',ah q2',ah q3,ah q4,ah q5,au];rw [List.any_eq_true];exact ⟨x.props[n],iq hn2,by simp [Jh];omega⟩
   refine aJ 3 ?_
   first
    | exact (aB vi e0.symm)
    | exact (aB vi e4.symm)
    | exact (aB vi e7.symm)
    | exact (aB vi e13.symm)
    | exact (aB vi e3.symm)
    | exact (aB vi e6.symm)
    | exact (aB vi (by rw [jf,mV,au (by omega)]))
  intro zu
  refine aj 4 ?_;intro a H;refine aI ?_;refine bR ((n+1)) (by exact (H.bY (Pl:=[_,_]) (bT:=[_]) [1] (by decide) rfl).sub ⟨rfl,rfl,rfl,rfl,aY⟩) ?_ ?_
  ·exact ⟨by omega,by rw [gI hn2,List.any_append,hno];simp [Jh];omega⟩
  first|omega|(dsimp only;omega)
 intro yG
 refine aj 2 ?_
 have q6:¬ x.props.any (fun p=>Jh p.key)=true:=by
  rw [show x.props.take n=x.props from iL (by omega)] at hno;rw [hno];decide
 have e0:jf l k x=gY (if x.kind=1 then 2 else 1) x.props:=by rw [jf,mV,ah (by omega),ah q1',ah q2',ah q3,ah q4,ah q5,ah q6]
 intro a H;refine dI hmx [[],[0],[0,1],[],[3],(ra 0 5),(ra 0 6)] [5,6] (by kernel_rfl) [_,vi x.kind,vi (if x.kind=1 then 2 else 1),_,.slice pA x.props.length pc] H (aF (Z0 rfl (Rf Ul rfl)) (Z1 0 93 rfl (Ro bC 0 rfl)) ?_ (Z0 rfl (Rf Um rfl)) (aW (Z1 3 96 rfl (Ro Et 0 rfl)) (aW (bS rfl) (aW (bS rfl) cZ)))) ?_
 ·refine dM 1 94 rfl rfl fun _ a w G1 hG HT H fin=>?_;refine s_call ako H wn rfl (ajb _ _ H.ro x.kind) rfl ?_;clear H;rintro v95 G95 a w rfl ant H;exact fin H ant (rfl)
 clear H;intro a w G Ck H hv;have H:=H.aV (hv 2 95 rfl rfl) rfl;have H:=H.aV (hv 4 97 rfl rfl) rfl;clear hv;refine s_call Ui H wn rfl (Xl _ _ H.ro _ x.props _ (Fp.mono Ck)) rfl ?_;clear H;rintro v98 YV a w rfl JQ H;refine kH H (Ra rfl ?_);clear H;intro a H;refine aI ⟨rfl,?_⟩;refine dW ?_;refine wS 0 H ?_
 first
  | exact (aB vi e0.symm)
  | exact (aB vi e4.symm)
  | exact (aB vi e7.symm)
  | exact (aB vi e13.symm)
  | exact (aB vi e3.symm)
  | exact (aB vi e6.symm)
  | exact (aB vi (by rw [jf,mV,au (by omega)]))
end
section
open Go.RowKit
instance Bw:Ty prog 33 1 24 [.slice none 0 0] false:=⟨by kernel_rfl,by kernel_rfl⟩
theorem Ai:prog.underlying 33=some (.slice 164):=by kernel_rfl
instance:kR prog 33 (.slice 164):=⟨Ai⟩
instance uV:Ty prog 164 6 64 [.int .i64 0,.int .i64 0,.string ⟨#[]⟩,.int .i64 0,.string ⟨#[]⟩,.bool false] true:=⟨by kernel_rfl,by kernel_rfl⟩
instance Un:dL prog 164 0 0:=⟨by kernel_rfl⟩
instance ame:dL prog 164 1 1:=⟨by kernel_rfl⟩
theorem akB:∀ args w,(callFunc 219 args).run prog w=.ok (.enter 219 args) w:=enters func219 rfl (by kernel_rfl)
theorem aki:∀ args w,(callFunc 187 args).run prog w=.ok (.enter 187 args) w:=enters func187 rfl (by kernel_rfl)
instance amf:dL prog 164 2 2:=⟨by kernel_rfl⟩
theorem aap:∀ args w,(callFunc 133 args).run prog w=.ok (.enter 133 args) w:=enters func133 rfl (by kernel_rfl)
instance amg:dL prog 164 3 3:=⟨by kernel_rfl⟩
instance amh:dL prog 164 4 4:=⟨by kernel_rfl⟩
theorem TU:∀ args w,(callFunc 190 args).run prog w=.ok (.enter 190 args) w:=enters func190 rfl (by kernel_rfl)
theorem akk:∀ args w,(callFunc 189 args).run prog w=.ok (.enter 189 args) w:=enters func189 rfl (by kernel_rfl)
theorem akj:∀ args w,(callFunc 188 args).run prog w=.ok (.enter 188 args) w:=enters func188 rfl (by kernel_rfl)
theorem akh:∀ args w,(callFunc 186 args).run prog w=.ok (.enter 186 args) w:=enters func186 rfl (by kernel_rfl)
theorem Im {G:GH} {b:Nat} (l:List Int) (h:G b=some (.cells (l.map vi).toArray 42 (0,0))) (hl:l.length≤maxLen):ay G (.sl 1 (l.map fun k=>[li k])) (.slice (some ⟨b,0,none⟩) l.length l.length) :=
 ay.eT h (by simp) (bX _) hl (iL (by simp)) (fG G l)
theorem Jm {G:GH} {l:List eY} {A:Option Addr} {n c k:Nat} (hv:ay G (.sl 6 (l.map eY.dat)) (.slice A n c)) (hk:k < l.length):∃ b o,A=some ⟨b,o,none⟩∧(∀ j u,l[k].cells[j]?=some u→aC G b (o+k*6+j)=some u)∧aZ G l[k].dat l[k].cells:=by
 obtain ⟨A',c',he,_,_,hg⟩:=hv.slice
 injection he with e1 e2 e3
 subst e1;obtain ⟨b,o,cs,h1,h2,h3,h4⟩:=hg k l[k].dat (by simp [hk]);have:=Tz h4;subst this;exact ⟨b,o,h1,h3,h4⟩
theorem aiB {G:GH} {bl:Nat} {l:List eY} {A:Option Addr} {n c:Nat} (hb:aC G bl 0=some (.slice A n c)) (hv:ay G (.sl 6 (l.map eY.dat)) (.slice A n c)):vk (.func (.func 189) #[] #[(aK bl 0)]) G l.length fun k=>(l[k]?.map eY.id).getD 0:=by
 intro k hk G1 w0 hm hG;refine jM (caps:=[(aK bl 0)]) akk ?_;replace hb:=aD hm hb
 obtain rfl:n=l.length:=by have:=hv.len;simpa using this
 obtain ⟨b,o,rfl,hrow,-⟩:=Jm (hv.mono hm) hk;have hq:=hrow 0 _ rfl;refine eN [(0,_),(1,_)] func189 rfl ntmps189 rfl rfl hG ?_;refine aJ 11 ?_;dsimp only;rw [dV hk];rfl
theorem aiC {G:GH} {bc:Nat} {x:eY} (hb:aC G bc 1=some (vi x.parent)) (y:eY):rV (.func (.func 188) #[] #[(aK bc 0)]) G y.dat (decide (y.id=x.parent)):=by
 intro G1 w0 cs hm hG hr;refine jM (caps:=[(aK bc 0)]) akj ?_;obtain rfl:=Tz hr;replace hb:=aD hm hb;refine eN [(0,_),(1,_)] func188 rfl ntmps188 rfl rfl hG ?_;refine aj 1 ?_;intro a H;refine dN (cs:=[_,_,_,_,_,_]) H wn rfl rfl rfl ?_;clear H;intro b2 a w hb2 H;refine gK 10 H ?_;exact rfl
theorem aqc (G:GH) (w0:World) (hG:Hold G w0) (l:List eY) (p:eY→Bool) (v fv:ak) (hv:ay G (.sl 6 (l.map eY.dat)) v) (hf:∀ x∈l,rV fv G x.dat (p x)) :
  Calls prog 219 #[v,fv] w0 (bB w0 G fun u G'=>u=vi (nL (l.findIdx? p))):=by
 obtain ⟨A,c,rfl,hc1,hc2,hg⟩:=hv.slice;have hml:maxLen=9223372036854775807:=rfl;rw [bE] at *;refine eN [(0,_),(1,_)] func219 rfl ntmps219 rfl rfl hG ?_;refine aj 10 ?_;intro a H;refine dD (ι:=Nat × GH) (Tc:=[(0,_),(1,_),(7,_)]) (Lc:=[]) (fun gh=>[(8,vi gh.1)]) (fun gh=>[]) (fun gh=>gh.2) (fun gh=>gh.1≤l.length∧(l.take gh.1).findIdx? p=none∧(∀ b o,G b=some o→gh.2 b=some o)) (fun gh=>l.length - gh.1) ((0,G)) sB ?_ ?_
 ·exact ⟨by omega,rfl,fun _ _ h=>h⟩
 clear H;rintro ⟨k,g⟩ a w hI H;dsimp only at hI H;obtain ⟨hk,hno,hgm⟩:=hI;dsimp only [lca,aQ] at H;refine cK 4 H ?_ ?_ <;> clear H
 ·intro p9
  have hk2:k < l.length:=by omega
  obtain ⟨b,o,rfl,hrow,hrep⟩:=Jm hv hk2;refine aj 12 ?_;intro a H;refine aT uV (cs:=l[k].cells) H wn rfl rfl (fun j v hj=>H.hp.aC (aD hgm (hrow j v hj))) rfl ?_;clear H;intro a H;refine nZ H wn rfl rfl (hf _ (iq hk2) _ _ _ hgm H.ro (hrep.mono hgm)) rfl ?_;clear H;rintro v16 vg a w rfl vN H;refine fE 1 H ?_ ?_ <;> clear H
  ·intro h16
   try have p16:=dT h16
   refine aJ 4 ?_
   first
    | exact (by rw [xk hk2 hno h16];rfl)
    | exact (by rw [show l.take k=l from iL (by omega)] at hno;rw [hno];rfl)
  intro h16
  try have p16:=dF h16
  refine aj 4 ?_;intro a H;refine aI ?_;refine bR ((k+1,vg)) sB ?_ ?_
  ·(try dsimp only);exact ⟨by omega,Fq hk2 hno h16,fun b o h=>vN b o (hgm b o h)⟩
  first|omega|(dsimp only;omega)
 intro p9
 refine aJ 4 ?_
 first
  | exact (by rw [xk hk2 hno h16];rfl)
  | exact (by rw [show l.take k=l from iL (by omega)] at hno;rw [hno];rfl)
theorem aiF (G:GH) (w0:World) (hG:Hold G w0) (l:List eY) (p:eY→Bool) (v fv:ak) (hv:ay G (.sl 6 (l.map eY.dat)) v) (hf:∀ x∈l,rV fv G x.dat (p x)) :
  Calls prog 187 #[v,fv] w0 (bB w0 G fun u G'=>u=.bool (l.findIdx? p).isSome):=by
 obtain ⟨A,c,rfl,hc1,hc2,-⟩:=hv.slice;rw [bE] at *;refine eN [(0,_),(1,_)] func187 rfl ntmps187 rfl rfl hG ?_;refine aj 6 ?_;intro a H;refine s_call akB H wn rfl (aqc _ _ H.ro l p _ _ hv hf) rfl ?_;clear H;rintro v7 G7 a w rfl vO H;refine gK 3 H ?_;exact (dJ (Wv _))
def EM (l:List eY) (i:Nat) (x:eY):Bool:=decide (x.parent=0) || ((l.take i).findIdx? fun y=>decide (y.id=x.parent)).isSome
def Av (l:List eY) (i:Nat) (x:eY):Int:=bP [jJ (fun k=>(l[k]?.map eY.id).getD 0) i,bK (!EM l i x) 8,bK (!oq x.author) 39,bK (!decide (0≤x.time∧x.time≤1099511627776)) 40,sP x.text]
def uw (l:List eY) (i:Nat):Int:=match l[i]? with|some x=>Av l i x|none=>0
theorem aiA {G:GH} {bl:Nat} {l:List eY} {A:Option Addr} {n c:Nat} (hb:aC G bl 0=some (.slice A n c)) (hv:ay G (.sl 6 (l.map eY.dat)) (.slice A n c)) (hl:l.length≤4294967296) (ht:∀ x∈l,x.author.size < 4611686018427387904∧x.text.size < 4611686018427387904):vk (.func (.func 186) #[] #[(aK bl 0)]) G l.length (uw l):=by
 intro k hk G1 w0 hm hG;refine jM (caps:=[(aK bl 0)]) akh ?_;replace hb:=aD hm hb;replace hv:=hv.mono hm;have hcb:=aiB hb hv;obtain ⟨_,_,hee,hvc,-,-⟩:=hv.slice
 injection hee with _ _ hcc
 subst hcc;rw [bE] at hvc
 obtain rfl:n=l.length:=by have:=hv.len;simpa using this
 obtain ⟨b,o,rfl,hrow,hrep⟩:=Jm hv hk;have hte:=ht _ (iq hk);obtain ⟨x,hx⟩:∃ x,x=l[k]:=⟨_,rfl⟩;rw [← hx] at hrow hte
 have he:uw l k=Av l k x:=by unfold uw;rw [dV hk,hx]
 refine eN [(0,_),(1,_)] func186 rfl ntmps186 rfl rfl hG ?_;refine aj 7 ?_;intro a H;refine aT uV (cs:=x.cells) H wn rfl rfl (fun j v hj=>H.hp.aC (hrow j v hj)) rfl ?_;clear H;intro a H;refine dx uV H wn rfl ?_;clear H;intro b4 a w hb4 H;refine bq uV 0 (vs:=[_,_,_,_,_,_]) _ H wn rfl rfl rfl rfl rfl rfl rfl rfl ?_;clear H;intro w H;dsimp only [List.set,setRow] at H;obtain ⟨Ga,hma,AZ,H⟩:=H.dS
 have hcell:∀ (j:Nat) (u:ak),x.cells[j]?=some u→aC Ga b4 j=some u:=fun j u hj=>by unfold aC;rw [AZ];simpa using hj
 have q1:=hcell 1 _ rfl;have hbA:=aD hma hb;have Qu:=(hv.mono hma).pre k (by rw [bE];omega);rw [← List.map_take] at Qu;refine aI ?_;refine dW ?_;refine oQ (ι:=Bool × GH) (Tc:=[(0,_),(1,_),(4,_)]) (Lc:=[]) (fun gh=>[(5,.bool gh.1)]) (fun gh=>[]) (fun gh=>gh.2) (fun gh=>gh.1=EM l k x∧(∀ b o,Ga b=some o→gh.2 b=some o)) sB ?_ ?_
 ·refine gcQ 5 13 H ?_ ?_ <;> clear H
  ·intro oW
   try have oJ:=dT oW
   refine aj 7 ?_;intro a H;refine aI ?_;refine ⟨(_,_),sB,?_⟩;(try dsimp only)
   first
   | exact ⟨by unfold EM;rw [eZ (by assumption)];rfl,fun _ _ h=>h⟩
   | exact ⟨by unfold EM;rw [gD (by assumption)];rfl,hm18⟩
  intro oW
  try have oJ:=dF oW
  refine aj 2 ?_;intro a H;refine XF Ai uV k H (wg H rfl rfl oW) rfl rfl rfl (by omega) rfl ?_;clear H;intro a H;refine pK H (wg H rfl rfl oW) rfl rfl ?_;clear H;intro a H;refine s_call aki H (wg H rfl rfl oW) rfl (aiF _ _ H.ro (l.take k) (fun y=>decide (y.id=x.parent)) _ _ Qu (fun y _=>aiC q1 y)) rfl ?_;clear H;rintro v18 Sw a w rfl hm18 H;refine aH 2 H ?_;clear H;intro a H;refine aI ?_;refine ⟨(_,_),sB,?_⟩;(try dsimp only)
  first
  | exact ⟨by unfold EM;rw [eZ (by assumption)];rfl,fun _ _ h=>h⟩
  | exact ⟨by unfold EM;rw [gD (by assumption)];rfl,hm18⟩
 clear H;rintro ⟨bf,g⟩ a w hI H;dsimp only at hI H;obtain ⟨hbf,hgm⟩:=hI;replace hcell:=fun j u hj=>aD hgm (hcell j u hj);replace hcb:=(hcb.mono hma).mono hgm;dsimp only [lca,aQ] at H;refine Jy ?_;have H:=H.sub (T':=[(0,_),(1,_),(4,_),(5,_)]) ⟨rfl,rfl,rfl,rfl,aY⟩;refine dI hmx [[],[],[0,1],[],[3],(ra 0 5),[],[6],(ra 0 8),(ra 0 9),(ra 0 10),[],[11],(ra 0 13),(ra 0 14),(ra 0 15),[],[16],(ra 0 18),(ra 0 19),(ra 0 20),(ra 0 21)] [19,20,21] (by kernel_rfl) [_,.func (.func 189) #[] #[(aK bl 0)],vi (jJ (fun k=>(l[k]?.map eY.id).getD 0) k),_,_,vi (bK (!bf) 8),_,_,.bool (oq x.author),_,vi (bK (!oq x.author) 39),_,_,.bool (decide (0≤x.time∧x.time≤1099511627776)),_,vi (bK (!decide (0≤x.time∧x.time≤1099511627776)) 40),_,_,vi (sP x.text)] H (aF (Z0 rfl (Rm rfl)) ?_ ?_ (Z0 rfl (Rm rfl)) (aF (Z1 3 23 rfl (Rn rfl)) ?_ (Z0 rfl (Rf amf rfl)) (X1 6 26 rfl fun hG=>Rg lY rfl (aD hG (hcell 2 _ rfl))) (aF ?_ (Z1 8 28 rfl (Rn rfl)) ?_ (Z0 rfl (Rf amg rfl)) (aF (X1 11 31 rfl fun hG=>Rg bC rfl (aD hG (hcell 3 _ rfl))) ?_ (Z1 13 33 rfl (Rn rfl)) ?_ (aF (Z0 rfl (Rf amh rfl)) (X1 16 36 rfl fun hG=>Rg lY rfl (aD hG (hcell 4 _ rfl))) ?_ (bS rfl) (aW (bS rfl) (aW (bS rfl) cZ))))))) ?_
 ·refine Df rfl fun _ a w G1 hG HT H fin=>?_;refine pK H wn rfl rfl ?_;clear H;intro a H;exact fin H iJ rfl
 ·refine dP 0 20 1 21 rfl rfl fun _ a w G1 hG HT H fin=>?_;refine s_call TL H wn rfl (Ws _ _ H.ro k _ _ (by omega) (fun i hi=>(hcb.mono hG) i (by omega))) rfl ?_;clear H;rintro v22 YE a w rfl vJ H;exact fin H vJ (rfl)
 ·refine dM 4 24 rfl rfl fun _ a w G1 hG HT H fin=>?_;refine s_call jF H wn rfl (jK _ _ H.ro _ 8) rfl ?_;clear H;rintro v25 YH a w ⟨rfl,-⟩ UK H;exact fin H UK (rfl)
 ·refine dM 7 27 rfl rfl fun _ a w G1 hG HT H fin=>?_;refine s_call aap H wn rfl (Zg _ _ H.ro x.author hte.1) rfl ?_;clear H;rintro v28 Sz a w ⟨rfl,-⟩ anb H;exact fin H anb (rfl)
 ·refine dM 9 29 rfl rfl fun _ a w G1 hG HT H fin=>?_;refine s_call jF H wn rfl (jK _ _ H.ro _ 39) rfl ?_;clear H;rintro v30 Da a w ⟨rfl,-⟩ Mv H;exact fin H Mv (rfl)
 ·refine dM 12 32 rfl rfl fun _ a w G1 hG HT H fin=>?_;refine s_call yU H wn rfl (zl _ _ H.ro x.time 0 1099511627776) rfl ?_;clear H;rintro v33 G33 a w ⟨rfl,-⟩ anf H;exact fin H anf (rfl)
 ·refine dM 14 34 rfl rfl fun _ a w G1 hG HT H fin=>?_;refine s_call jF H wn rfl (jK _ _ H.ro _ 40) rfl ?_;clear H;rintro v35 YK a w ⟨rfl,-⟩ UL H;exact fin H UL (rfl)
 ·refine dM 17 37 rfl rfl fun _ a w G1 hG HT H fin=>?_;refine s_call TU H wn rfl (XV _ _ H.ro x.text hte.2) rfl ?_;clear H;rintro v38 YP a w rfl ani H;exact fin H ani (rfl)
 clear H;intro a w G anc H hv;have H:=H.aV (hv 2 22 rfl rfl) rfl;have H:=H.aV (hv 5 25 rfl rfl) rfl;have H:=H.aV (hv 10 30 rfl rfl) rfl;have H:=H.aV (hv 15 35 rfl rfl) rfl;have H:=H.aV (hv 18 38 rfl rfl) rfl;clear hv;refine iy rQ iN [_,_,_,_,_] [_,_,_,_,_] H wn rfl rfl rfl rfl rfl (by intro i q h;match i,h with|0,h=>exact h|1,h=>exact h|2,h=>exact h|3,h=>exact h|4,h=>exact h|n+5,h=>simp at h) rfl rfl ?_;clear H;intro Ti a w abE H;obtain ⟨SA,acj,anR,H⟩:=H.dS;refine s_call sj H wn rfl (sw _ _ H.ro _ _ (Im [jJ (fun k=>(l[k]?.map eY.id).getD 0) k,bK (!bf) 8,bK (!oq x.author) 39,bK (!decide (0≤x.time∧x.time≤1099511627776)) 40,sP x.text] anR (show 5≤maxLen by decide))) rfl ?_;clear H;rintro v40 _ a w ⟨rfl,rfl⟩ - H;refine kH H (Ra rfl ?_);clear H;intro a H;refine aI ⟨rfl,?_⟩;refine dW ?_;refine wS 0 H ?_;rw [he,Av,← hbf]
def um (l:List eY):Int:=bP [bK (decide (1024 < (l.length:Int))) 9,fV (uw l) (min l.length 1024)]
theorem ahW (G:GH) (w0:World) (hG:Hold G w0) (l:List eY) (v:ak) (hv:ay G (.sl 6 (l.map eY.dat)) v) (hl:l.length≤4294967296) (ht:∀ x∈l,x.author.size < 4611686018427387904∧x.text.size < 4611686018427387904) :
  Calls prog 128 #[v] w0 (bB w0 G fun u G'=>u=vi (um l)):=by
 obtain ⟨A,c,rfl,hc1,hc2,-⟩:=hv.slice;rw [bE] at *;refine eN [(0,_)] func128 rfl ntmps128 rfl rfl hG ?_;refine aj 1 ?_;intro a H;refine dN (cs:=[_]) H wn rfl rfl rfl ?_;clear H;intro b1 a w hb1 H;refine aH 3 H ?_;clear H;intro a H;have H:=H.sub (T':=[(1,_)]) ⟨rfl,aY⟩;obtain ⟨Ga,hma,hb1',H⟩:=H.dS
 have hbl:aC Ga b1 0=some (.slice A l.length c):=by unfold aC;rw [hb1'];rfl
 have hcb:=aiA hbl (hv.mono hma) hl ht;refine dI hmx [[],[0],[0,1],[0,1,2],[],[4],[4,5],[],(ra 0 8),(ra 0 9),(ra 0 10),(ra 0 11)] [9,10,11] (by kernel_rfl) [_,_,_,vi (bK (decide (1024 < (l.length:Int))) 9),_,_,vi ((min l.length 1024:Nat):Int),.func (.func 186) #[] #[(aK b1 0)],vi (fV (uw l) (min l.length 1024))] H (aF (X0 rfl fun hG=>Rg Bw rfl (aD hG hbl)) (Z1 0 3 rfl (Rl Ai rfl)) (Z1 1 4 rfl (Rc rfl)) ?_ (aF (X0 rfl fun hG=>Rg Bw rfl (aD hG hbl)) (Z1 4 7 rfl (Rl Ai rfl)) ?_ ?_ (aF ?_ (bS rfl) (bS rfl) (bS rfl) cZ))) ?_
 ·refine dM 2 5 rfl rfl fun _ a w G1 hG HT H fin=>?_;refine s_call jF H wn rfl (jK _ _ H.ro _ 9) rfl ?_;clear H;rintro v6 G6 a w ⟨rfl,-⟩ iw H;exact fin H iw (rfl)
 ·refine dM 5 8 rfl rfl fun _ a w G1 hG HT H fin=>?_;refine RF H wn rfl rfl rfl ?_;clear H;intro a H;exact fin H iJ (aB vi (by omega))
 ·refine Df rfl fun _ a w G1 hG HT H fin=>?_;refine pK H wn rfl rfl ?_;clear H;intro a H;exact fin H iJ rfl
 ·refine dP 6 9 7 10 rfl rfl fun _ a w G1 hG HT H fin=>?_;refine s_call Js H wn rfl (LA _ _ H.ro (min l.length 1024) (uw l) _ (by omega) ((hcb.mono hG).le (Nat.min_le_left _ _))) rfl ?_;clear H;rintro v11 qM a w rfl lH H;exact fin H lH (rfl)
 clear H;intro a w G nH H hv;have H:=H.aV (hv 3 6 rfl rfl) rfl;have H:=H.aV (hv 8 11 rfl rfl) rfl;clear hv;refine iy rQ iN [_,_] [_,_] H wn rfl rfl rfl rfl rfl (by intro i q h;match i,h with|0,h=>exact h|1,h=>exact h|n+2,h=>simp at h) rfl rfl ?_;clear H;intro b12 a w DU H;obtain ⟨C9,A9,Hw,H⟩:=H.dS;refine s_call sj H wn rfl (sw _ _ H.ro _ _ (Ae Hw)) rfl ?_;clear H;rintro v13 _ a w ⟨rfl,rfl⟩ - H;refine kH H (Ra rfl ?_);clear H;intro a H;refine aI ⟨rfl,?_⟩;refine dW ?_;refine wS 0 H ?_;exact rfl
end
section
open Go.RowKit
def zm:Nat→List Int→List MapEntry
 | _,[]=>[]
 | i,k :: r=>⟨.int .i64 k,.int .i64 (i:Int),i⟩ :: zm (i+1) r
theorem adX (x:Int):∀ (i:Nat) (l:List Int),zm i (l++[x])=zm i l++[⟨.int .i64 x,.int .i64 ((i+l.length:Nat):Int),i+l.length⟩]
 | _,[]=>rfl
 | i,k :: r=>by
  rw [kr,zm,adX x (i+1) r,zm,kr,jS,show i+1+r.length=i+(r.length+1) by omega]
def xg (x:Int):Nat→List Int→Option Nat
 | _,[]=>none
 | i,k :: r=>if k=x then some i else xg x (i+1) r
theorem adq {x:Int}:∀ {l:List Int} {i n:Nat},xg x i l=some n→i≤n
 | [],_,_,h=>by cases h
 | k :: r,i,n,h=>by
  rw [xg] at h;split at h
  ·cases h;exact bX _
  ·have:=adq h;omega
theorem ads {x:Int}:∀ {l:List Int} {i:Nat},x∉l→xg x i l=none
 | [],_,_=>rfl
 | k :: r,i,h=>by
  rw [xg,ah (fun e=>h (by simp [e])),ads (fun hm=>h (jT _ hm))]
theorem Us (x:Int):∀ (i j:Nat) (l:List Int),Instr.findNow (.int .i64) (.int .i64 x) (zm i l) j=some ((xg x i l).map fun n=>(j+(n - i),.int .i64 (n:Int)))
 | _,_,[]=>rfl
 | i,j,k :: r=>by
  have ih:=Us x (i+1) (j+1) r
  by_cases e:k=x
  ·subst e
   simp only [zm,Instr.findNow,Instr.sameNow,au,xg,beq_self_eq_true]
   simp
  ·have hb:(x == k)=false:=by simp;exact fun h=>e h.symm
   simp only [zm,Instr.findNow,Instr.sameNow,au,hb,xg,ah e,ih]
   cases h:xg x (i+1) r with
   | none=>rfl
   | some n =>
    have:=adq h
    simp only [BP,nQ,iB,and_true]
    omega
abbrev ahh (b:Nat) (l:List Int):Nat × Obj:=(b,.map (zm 0 l).toArray l.length)
theorem ara (l:List Int) (x:Int):(zm 0 l).toArray.push ⟨.int .i64 x,.int .i64 (l.length:Int),l.length⟩=(zm 0 (l++[x])).toArray:=by
 rw [adX,List.push_toArray,gX]
end
section
open Go.RowKit
section
variable {P:Program} {N:Nat} {D:List Deferred} {w0 w w':World} {F:Nat→Prop} {G0 G G':GH} {L L' Li Lo:OL} {T:List (Nat × ak)} {a a':Act} {Q:Exit→Act→World→Prop}
variable {r:Option Nat} {ops:Array Oper} {rest:List Oper}
def SI (P:Program) (Gi:GH) (B:OL) (gv:ak) (xs:List AP):Prop :=
 ∀ (J:Nat→GH→OL→Prop) (Jx:GH→OL→Prop) (fv:ak) (G:GH) (L:OL) (w:World),fv.cells=#[fv]→(∀ b o,Gi b=some o→G b=some o)→EB J→GD Jx→J 0 G L→fM G (B++L) w→Ev P fv G xs J Jx →
  wD P gv [fv] w (fB w G (B++L) fun _ G' L'=>J xs.length G' L'∨Jx G' L')
theorem SI.mono {Gi EA:GH} {B:OL} {gv:ak} {xs:List AP} (h:SI P Gi B gv xs) (hm:∀ b o,Gi b=some o→EA b=some o):SI P EA B gv xs :=
 fun J Jx fv G L w h0 h1=>h J Jx fv G L w h0 fun b o hb=>h1 b o (hm b o hb)
end
end
section
open Go.RowKit
section
variable {P:Program} {N:Nat} {D:List Deferred} {w0 w w':World} {F:Nat→Prop} {G0 G G':GH} {L L' Li Lo:OL} {T:List (Nat × ak)} {a a':Act} {Q:Exit→Act→World→Prop}
variable {r:Option Nat} {ops:Array Oper} {rest:List Oper}
def Jb (P:Program) (Gi:GH) (B:OL) (gv:ak) (xs:List AP) (fin:Bool):Prop :=
 ∀ (J:Nat→GH→OL→Prop) (Jx:GH→OL→Prop) (fv:ak) (G:GH) (L:OL) (w:World),fv.cells=#[fv]→(∀ b o,Gi b=some o→G b=some o)→EB J→GD Jx→J 0 G L→fM G (B++L) w→Ev P fv G xs J Jx→(fin=false→∀ g l,¬ J xs.length g l) →
  wD P gv [fv] w (fB w G (B++L) fun _ G' L'=>J xs.length G' L'∨Jx G' L')
theorem Jb.mono {Gi EA:GH} {B:OL} {gv:ak} {xs:List AP} {fin:Bool} (h:Jb P Gi B gv xs fin) (hm:∀ b o,Gi b=some o→EA b=some o):Jb P EA B gv xs fin :=
 fun J Jx fv G L w h0 h1=>h J Jx fv G L w h0 fun b o hb=>h1 b o (hm b o hb)
theorem ahy {fin:Bool} {B:OL} {AB:Operand} {ps:List Nat} {assign body:Code} {gf:FuncId} {caps:List ak} {xs:List AP} {Gi:GH}
  (H:St N D w0 F G0 G (B++L) T a w) (hg:ev T AB=some (.func (.func gf) #[] caps.toArray)) (en:∀ args w,(callFunc gf args).run P w=.ok (.enter gf args) w) (hit:Jb P Gi B (.func (.func gf) #[] caps.toArray) xs fin) (hGi:∀ b o,Gi b=some o→G b=some o)
  (hps:ps.all (Nat.blt · N)=true) (hlen:∀ k args g,xK xs k args g→args.length=ps.length)
  (J:Nat→GH→OL→Prop) (Jx:Code→GH→OL→Prop) (hno:fin=false→∀ g l,¬ J xs.length g l) (lT:EB J) (hJx:∀ c,GD (Jx c)) (h0:J 0 G L) (VW:SL P N ps assign body T G J Jx xs)
  (hdone:∀ Dk G1 L1 a1 w1,(∀ b o,G b=some o→G1 b=some o)→J xs.length G1 L1→St N ({ target:=.collected Dk,args:=#[] } :: D) w0 F G0 G1 ((Dk,.deferred (some [])) :: L1) T a1 w1→Q .normal a1 w1)
  (hstop:∀ Dk c G1 L1 a1 w1,(∀ b o,G b=some o→G1 b=some o)→Jx c G1 L1→St N ({ target:=.collected Dk,args:=#[] } :: D) w0 F G0 G1 ((Dk,.deferred (some [])) :: L1) T a1 w1→WP none P c Q a1 w1) :
  WP none P (.rangeFunc AB ps.toArray assign body) Q a w:=by
 refine wpIn_rangeFunc ?_
 intro fn _
 have hev:=H.ev hg
 let q:Rec:=⟨fn,a.tmps,ps.toArray,assign,body,w.heap.size⟩
 obtain ⟨W1,hW1⟩:∃ W1,W1=(w.alloc (.deferred (some []))).alloc (q.at .ready none):=⟨_,rfl⟩
 have H1:Hp w0 F G0 G (B++((w.heap.size+1,q.at .ready none) :: (w.heap.size,.deferred (some [])) :: L)) W1:=by
  have:=(H.hp.alloc (.deferred (some []))).alloc (q.at .ready none)
  rw [World.size_alloc] at this
  rw [hW1]
  refine this.perm ?_
  have e:=wK (l₁:=[(w.heap.size+1,q.at .ready none),(w.heap.size,Obj.deferred (some []))]) (l₂:=B)
  have e2:=List.Perm.append_right L e
  rw [fT,fT] at e2
  exact e2
 refine ⟨w.heap.size+1,[{ target:=.collected w.heap.size,args:=#[] }],W1,{ target:=.fn (.func gf) caps.toArray,args:=#[.func (.yield (w.heap.size+1)) #[] #[]] },W1,gf,
  #[.func (.yield (w.heap.size+1)) #[] #[]]++caps.toArray,W1,by rw [hW1];exact run_enterLoop_outer fn a.tmps ps.toArray assign body,?_,fun _ _=>trivial,?_,NZ none,?_⟩
 ·simp only [resolve,rangeCall,hev]
  simp [Deferred.ofValue,Act.eval]
 ·simp [invoke,en]
 ·have hcv:=hit (fun k=>Jr (w.heap.size+1) q [(w.heap.size,.deferred (some []))] (J k)) (N9 (w.heap.size+1) q [(w.heap.size,.deferred (some []))] Jx) (.func (.yield (w.heap.size+1)) #[] #[]) G
   ((w.heap.size+1,q.at .ready none) :: (w.heap.size,.deferred (some [])) :: L) W1 rfl hGi (fun k G G' L hm ⟨Lu,e,h⟩=>⟨Lu,e,lT k G G' Lu hm h⟩) (fun G G' L hm ⟨c,Lu,e,h⟩=>⟨c,Lu,e,hJx c G G' Lu hm h⟩) ⟨L,rfl,h0⟩ (Hp.owns (Li:=[]) H1) (ZE H.nu H.get hps hlen VW) (fun e g l ⟨Lu,_,h⟩=>hno e g Lu h)
  replace hcv:=hcv.go
  have e:(do let d ← Deferred.ofValue (.func (.func gf) #[] caps.toArray) [Value.func (.yield (w.heap.size+1)) #[] #[]].toArray;invoke d.target d.args:Sem Next).run P W1=.ok (.enter gf (#[.func (.yield (w.heap.size+1)) #[] #[]]++caps.toArray)) W1:=by
   simp [Deferred.ofValue,invoke,en]
  rw [e] at hcv
  refine (Tn hcv).mono ?_
  rintro e w2 ⟨v,G2,L2,rfl,hch,hJ⟩
  have H2:=Hp.change (Li:=[]) H1 hch
  rcases hJ with ⟨Lu,rfl,hJ⟩|⟨c,Lu,rfl,hJ⟩
  ·have hl:=H2.own _ (gP)
   have H3:=(H2.upd (i:=0) rfl (FR (q.at .exhausted none) hl)).drop (BO _ _)
   exact ⟨none,_,run_endLoop hl (by simp),hdone _ G2 Lu _ _ hch.gm hJ ⟨H.nu,H.get,by simp [H.uz],H3⟩⟩
  ·have hl:=H2.own _ (gP)
   have H3:=(H2.upd (i:=0) rfl (FR (q.at .exhausted (some c)) hl)).drop (BO _ _)
   exact ⟨some c,_,run_endLoop hl (by simp),hstop _ c G2 Lu _ _ hch.gm hJ ⟨H.nu,H.get,by simp [H.uz],H3⟩⟩
theorem ahz {fin:Bool} {B:OL} {ι κ:Type} {Lc:OL} {AB:Operand} {ps:List Nat} {assign body:Code} {gf:FuncId} {caps:List ak} {xs:List AP} {Gi:GH}
  (Lv:Nat→ι→OL) (Lt:Nat→ι→OL) (inv:Nat→ι→GH→Prop) (cx:κ→Code) (Lx Gx:κ→OL) (Bj:κ→GH→Prop) (i0:ι)
  (H:St N D w0 F G0 G (B++(Lc++Lv 0 i0++Lt 0 i0)) T a w) (hg:ev T AB=some (.func (.func gf) #[] caps.toArray)) (en:∀ args w,(callFunc gf args).run P w=.ok (.enter gf args) w) (hit:Jb P Gi B (.func (.func gf) #[] caps.toArray) xs fin) (hGi:∀ b o,Gi b=some o→G b=some o)
  (hno:fin=false→∀ i g,¬ inv xs.length i g) (hps:ps.all (Nat.blt · N)=true) (hlen:∀ k args g,xK xs k args g→args.length=ps.length) (hinv:∀ k i (G G':GH),(∀ b o,G b=some o→G' b=some o)→inv k i G→inv k i G') (Vv:∀ x (G G':GH),(∀ b o,G b=some o→G' b=some o)→Bj x G→Bj x G') (h0:inv 0 i0 G)
  (round:∀ (l:Nat) (yH vE:Obj) (bk:OL) (k:Nat) (args:List ak) (i:ι) (G1:GH) (w1:World) (F1:Nat→Prop) (B1:Code→Exit→Act→World→Prop) (a1:Act),xK xs k args G1→(∀ b o,G b=some o→G1 b=some o)→inv k i G1 →
   (∀ T' G2 L2 a2 w2 c,St N [] w1 F1 G1 G2 ((l,yH) :: L2) T' a2 w2→(∀ w3,St N [] w1 F1 G1 G2 ((l,vE) :: L2) T' a2 w3→WP (some l) P c (B1 c) a2 w3)→Exit.then (fun a2 w2=>∃ w3,(Instr.beginRound l).run P w2=.ok () w3∧c.wpIn (FW (some l)) 0 P (B1 c) a2 w3) (fun _ _ _=>False) .normal a2 w2) →
   (∀ i' T' G2 a2 w2 c,St N [] w1 F1 G1 G2 ((l,vE) :: (Lc++Lv (k+1) i'++(bk++Lt (k+1) i'))) T' a2 w2→inv (k+1) i' G2→B1 c .normal a2 w2) →
   (∀ x T' G2 a2 w2 c,St N [] w1 F1 G1 G2 ((l,vE) :: (Lc++Lx x++(bk++Gx x))) T' a2 w2→Bj x G2→(cx x=.ret→B1 c .ret a2 w2)∧∀ n,cx x=.exit n→B1 c (.exit n) a2 w2) →
   St N [] w1 F1 G1 G1 ((l,yH) :: (Lc++Lv k i++(bk++Lt k i))) (uj ps args T) a1 w1 →
   WP (some l) P assign (Exit.then (fun a2 w2=>∃ w3,(Instr.beginRound l).run P w2=.ok () w3∧body.wpIn (FW (some l)) 0 P (B1 body) a2 w3) (fun _ _ _=>False)) a1 w1)
  (hdone:∀ Dk i G1 a1 w1,(∀ b o,G b=some o→G1 b=some o)→inv xs.length i G1→St N ({ target:=.collected Dk,args:=#[] } :: D) w0 F G0 G1 ((Dk,.deferred (some [])) :: (Lc++Lv xs.length i++Lt xs.length i)) T a1 w1→Q .normal a1 w1)
  (hstop:∀ Dk x G1 a1 w1,(∀ b o,G b=some o→G1 b=some o)→Bj x G1→St N ({ target:=.collected Dk,args:=#[] } :: D) w0 F G0 G1 ((Dk,.deferred (some [])) :: (Lc++Lx x++Gx x)) T a1 w1→WP none P (cx x) Q a1 w1) :
  WP none P (.rangeFunc AB ps.toArray assign body) Q a w:=by
 refine ahy (J:=fun k g L=>∃ i,L=Lc++Lv k i++Lt k i∧inv k i g) (Jx:=fun c g L=>∃ x,c=cx x∧L=Lc++Lx x++Gx x∧Bj x g) H hg en hit hGi hps hlen (hno:=fun e g l ⟨i,_,h⟩=>hno e i g h) (fun k G G' L hm ⟨i,e,h⟩=>⟨i,e,hinv k i G G' hm h⟩) (fun c G G' L hm ⟨x,e1,e2,h⟩=>⟨x,e1,e2,Vv x G G' hm h⟩) ⟨i0,rfl,h0⟩ ?_ ?_ ?_
 ·rintro l q bk k args G1 L1 w1 a1 hk hm ⟨i,rfl,hi⟩ H1
  have pm:∀ A B:OL,(bk++(A++B)).Perm (A++(bk++B)):=fun A B=>by
   rw [← fT,← fT]
   exact List.Perm.append_right B wK
  refine round l (q.at .ready none) (q.at .busy none) bk k args i G1 w1 _ (fun _=>roundPost P l _) a1 hk hm hi ?_ ?_ ?_ (H1.perm (List.Perm.cons _ (pm _ _)))
  ·intro T' G2 L2 a2 w2 c H2 h
   exact Zw H2 h
  ·intro i' T' G2 a2 w2 c H2 h2
   exact Ko none (H2.perm (List.Perm.cons _ (pm _ _).symm)) ⟨_,rfl,i',rfl,h2⟩
  ·intro x T' G2 a2 w2 c H2 h2
   have H3:=H2.perm (List.Perm.cons _ (pm _ _).symm)
   refine ⟨fun e=>?_,fun n e=>?_⟩
   ·exact Ko (some .ret) H3 ⟨_,_,rfl,x,e.symm,rfl,h2⟩
   ·exact Ko (some (.exit n)) H3 ⟨_,_,rfl,x,e.symm,rfl,h2⟩
 ·rintro Dk G1 L1 a1 w1 hm ⟨i,rfl,hi⟩ H1
  exact hdone Dk i G1 a1 w1 hm hi H1
 ·rintro Dk c G1 L1 a1 w1 hm ⟨x,rfl,rfl,hx⟩ H1
  exact hstop Dk x G1 a1 w1 hm hx H1
end
end
section
open Go.RowKit
theorem FQ:prog.underlying 95=some (.map 3 3):=by kernel_rfl
instance:kR prog 95 (.map 3 3):=⟨FQ⟩
instance Eu:Ty prog 31 1 24 [.slice none 0 0] false:=⟨by kernel_rfl,by kernel_rfl⟩
instance amc:dL prog 156 3 3:=⟨by kernel_rfl⟩
theorem aax:∀ args w,(callFunc 198 args).run prog w=.ok (.enter 198 args) w:=enters func198 rfl (by kernel_rfl)
theorem adr {x:Int}:∀ {l:List Int} {i n:Nat},xg x i l=some n→n < i+l.length
 | [],_,_,h=>by cases h
 | k :: r,i,n,h=>by
  rw [xg] at h;split at h
  ·cases h;simp
  have:=adr h;simp only [jS];omega
def zP (l:List bH):Nat→Int→List bH
 | 0,_=>[]
 | f+1,id=>if id=0 then [] else match xg id 0 (l.map bH.id) with|none=>[]|some i=>match l[i]? with|none=>[]|some s=>s :: zP l f s.base
def Jl (l:List bH) (id:Int):List bH:=zP l (l.length+1) id
theorem ahQ {l:List bH} {f:Nat} {id:Int} (h:id=0):zP l f id=[]:=by
 cases f with
 | zero=>rfl
 | succ f=>rw [zP,au h]
theorem ahO {l:List bH} {f:Nat} {id:Int} (h0:¬ id=0) (h:xg id 0 (l.map bH.id)=none):zP l f id=[]:=by
 cases f with
 | zero=>rfl
 | succ f=>rw [zP,ah h0,h]
theorem ahP {l:List bH} {f i:Nat} {id:Int} (h0:¬ id=0) (h:xg id 0 (l.map bH.id)=some i) (hi:i < l.length):zP l (f+1) id=l[i] :: zP l f l[i].base:=by
 rw [zP,ah h0,h];dsimp only;rw [dV hi]
def stP (x:bH):AP:=fun args g=>∃ cs,args=[.agg cs.toArray]∧aZ g x.dat cs
theorem afu {A:List bH} {k:Nat} {args:List ak} {g:GH} (h:xK (A.map stP) k args g):∃ (hk:k < A.length) (cs:List ak),args=[.agg cs.toArray]∧aZ g A[k].dat cs:=by
 obtain ⟨p,hp,hargs⟩:=h;rw [om] at hp;obtain ⟨q,hq,rfl⟩:=oO.1 hp;obtain ⟨hk,rfl⟩:=jr.1 hq;obtain ⟨cs,h1,h2⟩:=hargs;exact ⟨hk,cs,h1,h2⟩
abbrev bI (b:Nat) (n:Int):Nat × Obj:=(b,.cells #[vi n] 3 (0,0))
theorem ahT {G:GH} {bl bi:Nat} {l:List bH} {id:Int} {v:ak} (hb:aC G bl 0=some v) (hv:ay G (.sl 6 (l.map bH.dat)) v) (hnd:∀ (k:Nat) (h:k < l.length),l[k].id∉(l.take k).map bH.id) :
  Jb prog G [bI bi id] (.func (.func 198) #[] #[(aK bl 0),(aK bi 0)]) ((Jl l id).map stP) (decide ((Jl l id).length≤l.length)):=by
 intro J Jx fv G1 L w0 DV hGi lT hJx hJ hO hcb hfin;refine jM (caps:=[(aK bl 0),(aK bi 0)]) aax ?_;obtain ⟨A,c,rfl,hc1,hc2,-⟩:=hv.slice;have hml:maxLen=9223372036854775807:=rfl;rw [bE] at *;replace hb:=aD hGi hb;replace hv:=hv.mono hGi;refine iM (N:=46) (T:=[(0,_),(1,_),(2,_)]) func198 rfl ntmps198 rfl rfl hO ?_;intro a H;refine Dn (fun _ K1=>?_);refine LH ?_;refine IK H wn rfl ?_;clear H;intro bm a w hbm H;refine kH H (jP K1 rfl (SQ fun _ K2=>SQ fun _ K3=>SC (Rg Eu rfl (by assumption) ?_)));clear H K1;intro a H;refine kH H (Rl wB rfl (Rm rfl (Kn K3 (SB ?_))));clear H K3;intro a H;skip;refine dD (ι:=Nat) (Tc:=[(0,_),(1,_),(2,_),(4,_),(10,_),(11,_)]) (Lc:=[(_,_)]) (fun gh=>[(12,vi gh)]) (fun gh=>[ahh bm ((l.take gh).map bH.id)]++L) (fun gh=>G1) (fun gh=>gh≤l.length) (fun gh=>l.length - gh) (0) (by exact (H.bY (Pl:=[_,_]) (bT:=[_,_]) [1,0] (by decide) rfl).sub ⟨rfl,rfl,rfl,rfl,rfl,rfl,rfl,aY⟩) ?_ ?_
 ·exact eG _
 clear H;intro k a w hI H;have hk:=hI;dsimp only [lca,aQ] at H;refine kP H (SQ fun _ K4=>SC (Rc rfl (Kn K4 (SQ fun _ K5=>Cd rfl ?_ ?_)))) <;> clear H K4
 ·intro oW a H
  try have oJ:=dT oW
  have hk2:k < l.length:=by omega
  obtain ⟨b,o,pA,pc,rfl,hrow,hp,hrep⟩:=Bv hv hk2;have aoY:=hnd k hk2
  have hlk:((l.take k).map bH.id).length=k:=by rw [bE,List.length_take];omega
  have hnx:(l.take k).map bH.id++[l[k].id]=(l.take (k+1)).map bH.id:=by rw [gI hk2,lg];rfl
  refine kP H (Kc K5 (SQ fun _ K6=>SB (SQ fun _ K7=>SC (Rm rfl (Ri wB jk rfl rfl ?_)))));clear H K5;intro a H;refine aT jk (cs:=[_,_,_,_,_,_]) H wn rfl rfl (fun j v hj=>H.hp.aC (hrow j v hj)) rfl ?_;clear H;intro a H;refine dx jk H wn rfl ?_;clear H;intro b6 a w hb6 H;refine kH H (Ra rfl ?_);clear H;intro a H;refine bq jk 0 (vs:=[_,_,_,_,_,_]) _ H wn rfl rfl rfl rfl rfl rfl rfl rfl ?_;clear H;intro w H;dsimp only [List.set,setRow] at H;refine kH H (Kn K7 (SC (Rm rfl (Og BX bC 0 rfl rfl (Rm rfl ?_)))));clear H K7;intro a H;refine afc (i:=2) (ky:=vi l[k].id) (v:=vi k) FQ lZ H wn rfl rfl rfl rfl (by trivial) (by rw [List.toList_toArray,Us,ads aoY];rfl) ?_;clear H;intro w H
  have hpush:((zm 0 ((l.take k).map bH.id)).toArray.push ⟨vi l[k].id,vi k,((l.take k).map bH.id).length⟩)=(zm 0 ((l.take (k+1)).map bH.id)).toArray:=by rw [← hnx,← ara,hlk]
  rw [hpush,show ((l.take k).map bH.id).length+1=((l.take (k+1)).map bH.id).length by rw [← hnx];simp] at H;refine kH H (Kn K6 (SC (Rd rfl (Rm rfl ?_))));clear H K6;intro a H;refine aI ?_;refine bR ((k+1)) (by exact (H.bY (Pl:=[_,_,_]) (bT:=[_,_]) [1,2] (by decide) rfl).sub ⟨rfl,rfl,rfl,rfl,rfl,rfl,rfl,aY⟩) ?_ ?_
  ·exact by omega
  first|omega|(dsimp only;omega)
 intro oW a H
 try have oJ:=dF oW
 obtain rfl:k=l.length:=by omega
 rw [wL] at H;refine Au ?_;refine K2 _ _ ?_;clear K2;refine LG ?_;skip;refine dD (ι:=Int × Nat × Nat × OL × GH) (Tc:=[(0,_),(1,_),(2,_),(4,_)]) (Lc:=[(_,_)]) (fun gh=>[]) (fun gh=>[bI bi gh.1]++gh.2.2.2.1) (fun gh=>gh.2.2.2.2) (fun gh=>(∀ b o,G1 b=some o→gh.2.2.2.2 b=some o)∧Now ((Jl l id).map stP) stP J (Jl l id).length gh.2.2.1 (zP l gh.2.1 gh.1) gh.2.2.2.2 gh.2.2.2.1∧gh.2.2.1+gh.2.1=l.length+1) (fun gh=>gh.2.1) ((id,l.length+1,0,L,G1)) (by exact (H.bY (Pl:=[_,_]) (bT:=[_,_]) [1,0] (by decide) rfl).sub ⟨rfl,rfl,rfl,rfl,aY⟩) ?_ ?_
 ·exact ⟨fun _ _ h=>h,⟨hJ,fun i a h=>by rw [gX,om];rw [show zP l (l.length+1) id=Jl l id from rfl] at h;rw [h];rfl,gX _⟩,gX _⟩
 clear H;rintro ⟨i,f,j1,Lt,g⟩ a w hI H;dsimp only at hI H;obtain ⟨hgm,bQ,hjf⟩:=hI;have hbg:=aD hgm hb;dsimp only [lca,aQ] at H;refine kP H (SQ fun _ K8=>SQ fun _ K9=>SC (Ro bC 1 rfl (Rc rfl (Kn K9 (Cd rfl ?_ ?_))))) <;> clear H K9
 ·intro h23 a H
  try have Aa:=dT h23
  have h0:¬ i=0:=by simpa using h23
  obtain ⟨an,han⟩:∃ an,an=xg i 0 (l.map bH.id):=⟨_,rfl⟩;have hfn:=Us i 0 0 (l.map bH.id);rw [← han] at hfn;refine kP H (Kc K8 (SB (SQ fun _ Ao=>SC (Rm rfl (Ro bC 1 rfl ?_)))));clear H K8;intro a H;refine atC (i:=0) (zv:=vi 0) _ FQ lZ (by kernel_rfl) H wn rfl rfl rfl (by trivial) (by simpa using hfn) rfl ?_;clear H;intro a H;refine kH H (Rm rfl ?_);clear H;intro a H;(iterate 2 refine qK H wn rfl rfl rfl ?_;clear H;intro a H);refine kH H (Ra rfl (jP Ao rfl (SQ fun _ wF=>SQ fun _ zL=>SC (Rm rfl (Rn rfl (Rm rfl (Sp 32 rfl ?_ ?_))))))) <;> clear H Ao
  ·intro h32 a H
   try have p32:=dT h32
   obtain rfl:an=none:=by
    cases an with
    | none=>rfl
    | some n=>simp [Ea] at h32
   rw [ahO h0 han.symm] at bQ;refine kH H (zM h32 rfl (Db h32 rfl (Db h32 rfl (Pt h32 rfl (Kn zL (Ct rfl rfl ?_))))));clear H zL;intro a H;refine dw ?_;refine (leave0 H results198 ?_).1;refine H.hp.bU (L':=Lt) (by repeat (first|exact bZ _|apply List.Sublist.cons)) (.inl ?_);have h:=bQ.len
   simp only [List.length_nil,mO] at h
   rw [← h];exact bQ.now
  intro h32 a H
  try have p32:=dF h32
  obtain ⟨n,rfl⟩:∃ n,an=some n:=by
   cases an with
   | none=>simp [Ea] at h32
   | some n=>exact ⟨n,rfl⟩
  have hnl:n < l.length:=by have:=adr han.symm;simpa using this
  obtain ⟨f',rfl⟩:∃ f',f=f'+1:=by
   cases f with
   | succ f'=>exact ⟨f',rfl⟩
   | zero =>
    exfalso
    have hl:=bQ.len
    simp only [zP,List.length_nil,mO] at hl
    refine hfin (gD (by omega)) g Lt ?_;rw [← hl];exact bQ.now
  rw [ahP h0 han.symm hnl] at bQ;dsimp only [Ea,Option.map_some] at H;obtain ⟨b,o,pA,pc,rfl,hrow,hp,hrep⟩:=Bv (hv.mono hgm) hnl;refine kH H (YM h32 rfl (YR Eu h32 rfl (by assumption) ?_));clear H;intro a H;refine kH H (YM h32 rfl (YI wB jk h32 rfl rfl ?_));clear H;intro a H;refine aT jk (cs:=[_,_,_,_,_,_]) H (wg H rfl rfl h32) rfl rfl (fun j v hj=>H.hp.aC (hrow j v hj)) rfl ?_;clear H;intro a H;refine tL (Li:=[_,_]) (L:=Lt) H (wg H rfl rfl h32) rfl rfl (hcb j1 _ _ _ _ ⟨_,bQ.head,_,rfl,hrep⟩ hgm bQ.now (Hp.owns (Li:=[_,_]) H.hp)) rfl ?_;clear H;rintro v38 YP Y6 a w ⟨b38,rfl,hb1,hb2⟩ Vz H;have hbg:=aD Vz hbg;have r3:=aD Vz (hrow 3 _ rfl);refine kH H (YN h32 rfl (Pf h32 rfl (Kn zL (Cd rfl ?_ ?_)))) <;> clear H zL
  ·intro Cj a H
   try have p40:=dT Cj
   refine dw ?_;refine (leave0 H results198 ?_).1;exact H.hp.bU (L':=Y6) (by repeat (first|exact bZ _|apply List.Sublist.cons)) (.inr (hb2 (by simpa using Cj)))
  intro Cj a H
  try have p40:=dF Cj
  refine kP H (Kc wF (SC (Rg Eu rfl (by assumption) ?_)));clear H wF;intro a H;refine kH H (Rm rfl (Ri wB jk rfl rfl (Rf amc rfl (Rg bC rfl (by assumption) ?_))));clear H;intro a H;refine bq bC 1 (vs:=[_]) _ H wn rfl rfl rfl rfl rfl rfl rfl rfl ?_;clear H;intro w H;dsimp only [List.set,setRow] at H;refine aI ?_;refine bR ((l[n].base,f',j1+1,Y6,YP)) (by exact (H).sub ⟨rfl,rfl,rfl,rfl,aY⟩) ?_ ?_
  ·(try dsimp only);exact ⟨fun b o h=>Vz b o (hgm b o h),bQ.step (hb1 (by simpa using Cj)),by omega⟩
  first|omega|(dsimp only;omega)
 intro h23 a H
 try have Aa:=dF h23
 refine Au ?_;refine (leave0 H results198 ?_).2;rw [ahQ (by simpa using h23)] at bQ;refine H.hp.bU (L':=Lt) (by repeat (first|exact bZ _|apply List.Sublist.cons)) (.inl ?_);have h:=bQ.len
 simp only [List.length_nil,mO] at h
 rw [← h];exact bQ.now
end
section
open Go.RowKit
theorem ajJ:∀ args w,(callFunc 155 args).run prog w=.ok (.enter 155 args) w:=enters func155 rfl (by kernel_rfl)
theorem ajI:∀ args w,(callFunc 153 args).run prog w=.ok (.enter 153 args) w:=enters func153 rfl (by kernel_rfl)
theorem TN:∀ args w,(callFunc 154 args).run prog w=.ok (.enter 154 args) w:=enters func154 rfl (by kernel_rfl)
instance amd:dL prog 156 4 4:=⟨by kernel_rfl⟩
theorem ahU {G:GH} {w0:World} (hO:fM G [] w0) (l:List bH) (id:Int) (v:ak) (hv:ay G (.sl 6 (l.map bH.dat)) v) :
  Calls prog 155 #[v,vi id] w0 (fB w0 G [] fun u G' L'=>∃ bl bi,u=.func (.func 198) #[] #[(aK bl 0),(aK bi 0)]∧L'=[bI bi id]∧aC G' bl 0=some v):=by
 obtain ⟨A,c,rfl,hc1,hc2,-⟩:=hv.slice;refine iM (N:=6) (T:=[(0,_),(1,_)]) func155 rfl ntmps155 rfl rfl hO ?_;refine aj 1 ?_;intro a H;refine dN (cs:=[_]) H wn rfl rfl rfl ?_;clear H;intro b2 a w hb2 H;refine dN (cs:=[_]) H wn rfl rfl rfl ?_;clear H;intro b3 a w hb3 H;refine aH 3 H ?_;clear H;intro a H;refine pK H wn rfl rfl ?_;clear H;refine aj 2 ?_;intro a H;refine lr H results155 rfl ?_;have H:=H.bY (Pl:=[_,_]) (bT:=[_,_]) [1,0] (by decide) rfl;obtain ⟨Ga,hma,hb2',H⟩:=H.dS;exact H.hp.dO ⟨b2,b3,rfl,rfl,by unfold aC;rw [hb2'];rfl⟩
def uE (p:Nat→Int):Nat→Nat→Int
 | _,0=>0
 | k,n+1=>if p k=0 then uE p (k+1) n else p k
theorem alV {p:Nat→Int} {k m:Nat} (h:k < m):uE p k (m - k)=if p k=0 then uE p (k+1) (m - (k+1)) else p k:=by
 obtain ⟨n,hn⟩:∃ n,m - k=n+1:=⟨m - k - 1,by omega⟩;rw [hn,uE,show m - (k+1)=n by omega]
theorem alU {p:Nat→Int} {k m:Nat} (h:m≤k):uE p k (m - k)=0:=by rw [show m - k=0 by omega];rfl
theorem aaQ {p:Nat→Int}:∀ {n k:Nat},uE p k n=0→∀ j,k≤j→j < k+n→p j=0
 | 0,k,_,j,h1,h2=>by omega
 | n+1,k,h,j,h1,h2=>by
  rw [uE] at h;split at h
  ·rename_i hp
   by_cases e:j=k
   ·rw [e];exact hp
   exact aaQ h j (by omega) (by omega)
  rename_i hp;exact absurd h hp
def Bo (l:List bH) (k:Nat):Int:=match l[k]? with|some s=>jf l k s|none=>0
theorem aeB {l:List bH} {k:Nat} (h:k < l.length):Bo l k=jf l k l[k]:=by unfold Bo;rw [dV h]
def vD (l:List bH) (s:bH):Bool:=(decide (s.base≠0) && !Io l s.kind s.base) || (decide (s.next≠0) && (decide (s.kind=2) || !Io l 1 s.next))
def TG (l:List bH) (s:bH):Bool:=decide (l.length < (Jl l s.id).length)
def fU (l:List bH):Int:=if 128 < l.length then 9 else if uE (Bo l) 0 l.length≠0 then uE (Bo l) 0 l.length else if l.any (vD l)=true then 25 else if l.any (TG l)=true then 16 else 0
theorem arV {l:List bH} (h:uE (Bo l) 0 l.length=0) {k:Nat} (hk:k+1 < l.length):l[k].id < l[k+1].id:=by
 have h1:=aaQ h (k+1) (eG _) (by omega);rw [aeB hk,jf,mV] at h1
 have hp:Ac l (k+1)=some l[k].id:=by rw [Ac,ah (by omega),Nat.add_sub_cancel,dV (by omega)];rfl
 rw [hp] at h1
 split at h1
 ·cases h1
 split at h1
 ·cases h1
 split at h1
 ·cases h1
 rename_i _ h2 h3
 have h2':¬ l[k].id=l[k+1].id:=fun e=>h2 (by rw [e]);have h3':¬ l[k+1].id < l[k].id:=fun e=>h3 (aG e)
 omega
theorem aeC {l:List bH} (h:uE (Bo l) 0 l.length=0):∀ {k j:Nat} (hk:k < l.length) (hj:j < k),l[j].id < l[k].id
 | k+1,j,hk,hj=>by
  have h1:=arV h hk
  by_cases e:j=k
  ·subst e;exact h1
  have:=aeC h (k:=k) (j:=j) (by omega) (by omega)
  omega
theorem aeD {l:List bH} (h:uE (Bo l) 0 l.length=0) (k:Nat) (hk:k < l.length):l[k].id∉(l.take k).map bH.id:=by
 intro hm;obtain ⟨x,hx1,hx2⟩:=List.mem_map.1 hm;obtain ⟨j,hj,rfl⟩:=List.getElem_of_mem hx1;rw [List.getElem_take] at hx2;rw [List.length_take] at hj;have:=aeC h hk (j:=j) (by omega)
 omega
theorem LB {α:Type} {p:α→Bool} {l:List α} {k:Nat} (hk:k < l.length) (h:(l.take k).any p=false) (hp:p l[k]=false):(l.take (k+1)).any p=false:=by
 rw [gI hk,List.any_append,h];simp [hp]
theorem xR {α:Type} {p:α→Bool} {l:List α} {k:Nat} (hk:k < l.length) (hp:p l[k]=true):l.any p=true:=List.any_eq_true.2 ⟨_,iq hk,hp⟩
theorem BQ {α:Type} {p:α→Bool} {l:List α} {k:Nat} (hk:l.length≤k) (h:(l.take k).any p=false):¬ l.any p=true:=by
 rw [iL hk] at h;rw [h];decide
theorem ZL (G:GH) (w0:World) (hG:Hold G w0) (l:List bH) (v:ak) (hv:ay G (.sl 6 (l.map bH.dat)) v) (hN:∀ s∈l,s.name.size≤4611686018427387904) :
  Calls prog 90 #[v] w0 (bB w0 G fun u G'=>u=vi (fU l)):=by
 obtain ⟨A,c,rfl,hc1,hc2,-⟩:=hv.slice;have hml:maxLen=9223372036854775807:=rfl;rw [bE] at *;refine eN [(0,_)] func90 rfl ntmps90 rfl rfl hG ?_;refine aj 1 ?_;intro a H;refine dN (cs:=[_]) H wn rfl rfl rfl ?_;clear H;intro b1 a w hb1 H;refine dx iN H wn rfl ?_;clear H;intro b2 a w hb2 H;refine eO 7 H ?_ ?_ <;> clear H
 ·intro lu
  refine aj 1 ?_;intro a H;refine bq iN 0 (vs:=[_]) _ H wn rfl rfl rfl rfl rfl rfl rfl rfl ?_;clear H;intro w H;dsimp only [List.set,setRow] at H;refine aI ?_;refine dW ?_;refine dw ?_;refine (leave1 H results90 (.cons (Bq iN H rfl (H.hp.qd 0 rfl rfl)) .nil) ?_).1
  first
   | exact H.rt (aB vi (by rw [fU,au (by omega)]))
   | exact H.rt (aB vi (by rw [ah (by simpa using iT)] at heq;rw [fU,ah (by omega),← heq,au (by simpa using iT)]))
   | exact H.rt (aB vi (by rw [fU,ah (by omega),ah (by rw [hok];decide),au hbad]))
   | exact H.rt (aB vi (by rw [fU,ah (by omega),ah (by rw [hok];decide),ah hbad,au (xR hj2 hI)]))
   | exact H.rt (aB vi (by rw [fU,ah (by omega),ah (by rw [hok];decide),ah hbad,ah (BQ (by omega) hnc)]))
 intro lu
 refine aj 8 ?_;intro a H;refine dD (ι:=Nat × GH) (Tc:=[(1,_),(2,_),(14,_)]) (Lc:=[(_,_),(_,_)]) (fun gh=>[(15,vi gh.1)]) (fun gh=>[]) (fun gh=>gh.2) (fun gh=>gh.1≤l.length∧uE (Bo l) gh.1 (l.length - gh.1)=uE (Bo l) 0 l.length∧(∀ b o,G b=some o→gh.2 b=some o)) (fun gh=>l.length - gh.1) ((0,G)) sB ?_ ?_
 ·exact ⟨eG _,rfl,fun _ _ h=>h⟩
 clear H;rintro ⟨k,g⟩ a w hI H;dsimp only at hI H;obtain ⟨hk,heq,hgm⟩:=hI;dsimp only [lca,aQ] at H;refine cK 4 H ?_ ?_ <;> clear H
 ·intro p16
  have hk2:k < l.length:=by omega
  rw [alV hk2,aeB hk2] at heq;refine aj 10 ?_;intro a H;refine s_call ajI H wn rfl (arW _ _ H.ro l k _ (hv.mono hgm) hk2 (hN _ (iq hk2))) rfl ?_;clear H;rintro v20 KJ a w rfl JO H;refine eO 6 H ?_ ?_ <;> clear H
  ·intro iT
   refine aj 2 ?_;intro a H;refine bq iN 0 (vs:=[_]) _ H wn rfl rfl rfl rfl rfl rfl rfl rfl ?_;clear H;intro w H;dsimp only [List.set,setRow] at H;refine aI ?_;refine dW ?_;refine dw ?_;refine (leave1 H results90 (.cons (Bq iN H rfl (H.hp.qd 0 rfl rfl)) .nil) ?_).1
   first
    | exact H.rt (aB vi (by rw [fU,au (by omega)]))
    | exact H.rt (aB vi (by rw [ah (by simpa using iT)] at heq;rw [fU,ah (by omega),← heq,au (by simpa using iT)]))
    | exact H.rt (aB vi (by rw [fU,ah (by omega),ah (by rw [hok];decide),au hbad]))
    | exact H.rt (aB vi (by rw [fU,ah (by omega),ah (by rw [hok];decide),ah hbad,au (xR hj2 hI)]))
    | exact H.rt (aB vi (by rw [fU,ah (by omega),ah (by rw [hok];decide),ah hbad,ah (BQ (by omega) hnc)]))
  intro iT
  refine aj 4 ?_;intro a H;refine aI ?_;refine bR ((k+1,KJ)) sB ?_ ?_
  ·(try dsimp only);exact ⟨by omega,by rw [au (by simpa using iT)] at heq;exact heq,fun b o h=>JO b o (hgm b o h)⟩
  first|omega|(dsimp only;omega)
 intro p16
 have hok:uE (Bo l) 0 l.length=0:=by rw [← heq];exact alU (by omega)
 clear heq;have Ij:=hv.mono hgm;refine aj 8 ?_;intro a H;refine dD (ι:=Nat × GH) (Tc:=[(1,_),(2,_),(25,_),(26,_)]) (Lc:=[(_,_),(_,_)]) (fun gh=>[(27,vi gh.1)]) (fun gh=>[]) (fun gh=>gh.2) (fun gh=>gh.1≤l.length∧(l.take gh.1).any (vD l)=false∧(∀ b o,g b=some o→gh.2 b=some o)) (fun gh=>l.length - gh.1) ((0,g)) sB ?_ ?_
 ·exact ⟨eG _,rfl,fun _ _ h=>h⟩
 clear H;rintro ⟨k,g2⟩ a w hI H;dsimp only at hI H;obtain ⟨hk3,hno,jI⟩:=hI;have Bh:=Ij.mono jI;dsimp only [lca,aQ] at H;refine cK 4 H ?_ ?_ <;> clear H
 ·intro p28
  have hk4:k < l.length:=by omega
  obtain ⟨b,o,pA,pc,rfl,hrow,hp,hrep⟩:=Bv Bh hk4;refine aj 5 ?_;intro a H;refine aT jk (cs:=[_,_,_,_,_,_]) H wn rfl rfl (fun j v hj=>H.hp.aC (hrow j v hj)) rfl ?_;clear H;intro a H;refine dx jk H wn rfl ?_;clear H;intro b6 a w hb6 H;refine bq jk 0 (vs:=[_,_,_,_,_,_]) _ H wn rfl rfl rfl rfl rfl rfl rfl rfl ?_;clear H;intro w H;dsimp only [List.set,setRow] at H;refine jA 6 34 H ?_ ?_ <;> clear H
  ·intro xX
   try have p34:=dT xX
   refine aj 5 ?_;intro a H;refine s_call TN H (wg H rfl rfl xX) rfl (Wu _ _ H.ro l l[k].kind l[k].base _ Bh) rfl ?_;clear H;rintro v40 g2 a w rfl D6 H;replace jI:=fun b o (h:g b=some o)=>D6 b o (jI b o h);replace Bh:=Bh.mono D6;refine ku 3 43 H ?_ ?_ <;> clear H
   ·intro p43
    refine aj 18 ?_;have hbad:l.any (vD l)=true:=xR hk4 (by unfold vD;simp_all);refine aj 1 ?_;intro a H;refine bq iN 1 (vs:=[_]) _ H wn rfl rfl rfl rfl rfl rfl rfl rfl ?_;clear H;intro w H;dsimp only [List.set,setRow] at H;refine aI ?_;refine dW ?_;refine dw ?_;refine (leave1 H results90 (.cons (Bq iN H rfl (H.hp.qd 1 rfl rfl)) .nil) ?_).1
    first
     | exact H.rt (aB vi (by rw [fU,au (by omega)]))
     | exact H.rt (aB vi (by rw [ah (by simpa using iT)] at heq;rw [fU,ah (by omega),← heq,au (by simpa using iT)]))
     | exact H.rt (aB vi (by rw [fU,ah (by omega),ah (by rw [hok];decide),au hbad]))
     | exact H.rt (aB vi (by rw [fU,ah (by omega),ah (by rw [hok];decide),ah hbad,au (xR hj2 hI)]))
     | exact H.rt (aB vi (by rw [fU,ah (by omega),ah (by rw [hok];decide),ah hbad,ah (BQ (by omega) hnc)]))
   intro p43
   refine gV 4 47 ?_ ?_
   ·intro p47
    refine iV 4 51 ?_ ?_
    ·intro DK
     try have p51:=dT DK
     refine aj 10 ?_;have hbad:l.any (vD l)=true:=xR hk4 (by unfold vD;simp_all);refine aj 1 ?_;intro a H;refine bq iN 1 (vs:=[_]) _ H wn rfl rfl rfl rfl rfl rfl rfl rfl ?_;clear H;intro w H;dsimp only [List.set,setRow] at H;refine aI ?_;refine dW ?_;refine dw ?_;refine (leave1 H results90 (.cons (Bq iN H rfl (H.hp.qd 1 rfl rfl)) .nil) ?_).1
     first
      | exact H.rt (aB vi (by rw [fU,au (by omega)]))
      | exact H.rt (aB vi (by rw [ah (by simpa using iT)] at heq;rw [fU,ah (by omega),← heq,au (by simpa using iT)]))
      | exact H.rt (aB vi (by rw [fU,ah (by omega),ah (by rw [hok];decide),au hbad]))
      | exact H.rt (aB vi (by rw [fU,ah (by omega),ah (by rw [hok];decide),ah hbad,au (xR hj2 hI)]))
      | exact H.rt (aB vi (by rw [fU,ah (by omega),ah (by rw [hok];decide),ah hbad,ah (BQ (by omega) hnc)]))
    intro DK
    try have p51:=dF DK
    refine aj 3 ?_;intro a H;refine s_call TN H (wg H rfl rfl DK) rfl (Wu _ _ H.ro l 1 l[k].next _ Bh) rfl ?_;clear H;rintro v55 g2 a w rfl wY H;replace jI:=fun b o (h:g b=some o)=>wY b o (jI b o h);replace Bh:=Bh.mono wY;refine eO 5 H ?_ ?_ <;> clear H
    ·intro p59
     have hbad:l.any (vD l)=true:=xR hk4 (by unfold vD;simp_all);refine aj 1 ?_;intro a H;refine bq iN 1 (vs:=[_]) _ H wn rfl rfl rfl rfl rfl rfl rfl rfl ?_;clear H;intro w H;dsimp only [List.set,setRow] at H;refine aI ?_;refine dW ?_;refine dw ?_;refine (leave1 H results90 (.cons (Bq iN H rfl (H.hp.qd 1 rfl rfl)) .nil) ?_).1
     first
      | exact H.rt (aB vi (by rw [fU,au (by omega)]))
      | exact H.rt (aB vi (by rw [ah (by simpa using iT)] at heq;rw [fU,ah (by omega),← heq,au (by simpa using iT)]))
      | exact H.rt (aB vi (by rw [fU,ah (by omega),ah (by rw [hok];decide),au hbad]))
      | exact H.rt (aB vi (by rw [fU,ah (by omega),ah (by rw [hok];decide),ah hbad,au (xR hj2 hI)]))
      | exact H.rt (aB vi (by rw [fU,ah (by omega),ah (by rw [hok];decide),ah hbad,ah (BQ (by omega) hnc)]))
    intro p59
    refine aj 4 ?_;intro a H;refine aI ?_;refine bR ((k+1,g2)) (by exact (H.bY (Pl:=[_,_,_]) (bT:=[_,_]) [1,2] (by decide) rfl).sub ⟨rfl,rfl,rfl,rfl,rfl,aY⟩) ?_ ?_
    ·(try dsimp only);exact ⟨by omega,LB hk4 hno (by unfold vD;simp_all),jI⟩
    first|omega|(dsimp only;omega)
   intro p47
   refine aj 18 ?_;intro a H;refine aI ?_;refine bR ((k+1,g2)) (by exact (H.bY (Pl:=[_,_,_]) (bT:=[_,_]) [1,2] (by decide) rfl).sub ⟨rfl,rfl,rfl,rfl,rfl,aY⟩) ?_ ?_
   ·(try dsimp only);exact ⟨by omega,LB hk4 hno (by unfold vD;simp_all),jI⟩
   first|omega|(dsimp only;omega)
  intro xX
  try have p34:=dF xX
  refine aj 9 ?_;intro a H;refine IJ amd H (wg H rfl rfl rfl) rfl rfl ?_;clear H;intro a H;refine iH bC H (wg H rfl rfl rfl) rfl (H.hp.qd 0 rfl rfl) rfl ?_;clear H;intro a H;refine Ej H (wg H rfl rfl rfl) rfl rfl rfl rfl ?_;clear H;intro a H;refine FK H (wg H rfl rfl rfl) rfl rfl ?_;clear H;refine iV 0 47 ?_ ?_
  ·intro h47
   try have p47:=dT h47
   refine iV 4 51 ?_ ?_
   ·intro DK
    try have p51:=dT DK
    refine aj 6 ?_;intro a H;refine Kr H (wg H rfl rfl rfl) rfl h47 rfl rfl ?_;clear H;refine aj 3 ?_;have hbad:l.any (vD l)=true:=xR hk4 (by unfold vD;simp_all);refine aj 1 ?_;intro a H;refine bq iN 1 (vs:=[_]) _ H wn rfl rfl rfl rfl rfl rfl rfl rfl ?_;clear H;intro w H;dsimp only [List.set,setRow] at H;refine aI ?_;refine dW ?_;refine dw ?_;refine (leave1 H results90 (.cons (Bq iN H rfl (H.hp.qd 1 rfl rfl)) .nil) ?_).1
    first
     | exact H.rt (aB vi (by rw [fU,au (by omega)]))
     | exact H.rt (aB vi (by rw [ah (by simpa using iT)] at heq;rw [fU,ah (by omega),← heq,au (by simpa using iT)]))
     | exact H.rt (aB vi (by rw [fU,ah (by omega),ah (by rw [hok];decide),au hbad]))
     | exact H.rt (aB vi (by rw [fU,ah (by omega),ah (by rw [hok];decide),ah hbad,au (xR hj2 hI)]))
     | exact H.rt (aB vi (by rw [fU,ah (by omega),ah (by rw [hok];decide),ah hbad,ah (BQ (by omega) hnc)]))
   intro DK
   try have p51:=dF DK
   refine aj 3 ?_;intro a H;refine s_call TN H (wg H rfl rfl DK) rfl (Wu _ _ H.ro l 1 l[k].next _ Bh) rfl ?_;clear H;rintro v55 g2 a w rfl wY H;replace jI:=fun b o (h:g b=some o)=>wY b o (jI b o h);replace Bh:=Bh.mono wY;refine aH 2 H ?_;clear H;intro a H;refine Kr H (wg H rfl rfl rfl) rfl h47 rfl rfl ?_;clear H;refine goB 2 ?_ ?_
   ·intro p59
    have hbad:l.any (vD l)=true:=xR hk4 (by unfold vD;simp_all);refine aj 1 ?_;intro a H;refine bq iN 1 (vs:=[_]) _ H wn rfl rfl rfl rfl rfl rfl rfl rfl ?_;clear H;intro w H;dsimp only [List.set,setRow] at H;refine aI ?_;refine dW ?_;refine dw ?_;refine (leave1 H results90 (.cons (Bq iN H rfl (H.hp.qd 1 rfl rfl)) .nil) ?_).1
    first
     | exact H.rt (aB vi (by rw [fU,au (by omega)]))
     | exact H.rt (aB vi (by rw [ah (by simpa using iT)] at heq;rw [fU,ah (by omega),← heq,au (by simpa using iT)]))
     | exact H.rt (aB vi (by rw [fU,ah (by omega),ah (by rw [hok];decide),au hbad]))
     | exact H.rt (aB vi (by rw [fU,ah (by omega),ah (by rw [hok];decide),ah hbad,au (xR hj2 hI)]))
     | exact H.rt (aB vi (by rw [fU,ah (by omega),ah (by rw [hok];decide),ah hbad,ah (BQ (by omega) hnc)]))
   intro p59
   refine aj 4 ?_;intro a H;refine aI ?_;refine bR ((k+1,g2)) (by exact (H.bY (Pl:=[_,_,_]) (bT:=[_,_]) [1,2] (by decide) rfl).sub ⟨rfl,rfl,rfl,rfl,rfl,aY⟩) ?_ ?_
   ·(try dsimp only);exact ⟨by omega,LB hk4 hno (by unfold vD;simp_all),jI⟩
   first|omega|(dsimp only;omega)
  intro h47
  try have p47:=dF h47
  refine aj 10 ?_;intro a H;refine NA H (wg H rfl rfl rfl) rfl h47 rfl rfl ?_;clear H;refine aj 7 ?_;intro a H;refine aI ?_;refine bR ((k+1,g2)) (by exact (H.bY (Pl:=[_,_,_]) (bT:=[_,_]) [1,2] (by decide) rfl).sub ⟨rfl,rfl,rfl,rfl,rfl,aY⟩) ?_ ?_
  ·(try dsimp only);exact ⟨by omega,LB hk4 hno (by unfold vD;simp_all),jI⟩
  first|omega|(dsimp only;omega)
 intro p28
 have hbad:=BQ (by omega) hno;refine aj 8 ?_;intro a H;refine OA (ι:=Nat × GH × List Nat) (Tc:=[(1,_),(2,_),(61,_),(62,_)]) (Lc:=[(_,_),(_,_)]) (fun gh=>Kg gh.2.2) (fun gh=>[(63,vi gh.1)]) (fun gh=>[]++(lV gh.2.2++[])) (fun gh=>gh.2.1) (fun gh=>gh.1≤l.length∧(l.take gh.1).any (TG l)=false∧(∀ b o,g2 b=some o→gh.2.1 b=some o)) (fun gh=>l.length - gh.1) ((0,g2,[])) sB ?_ ?_
 ·exact ⟨eG _,rfl,fun _ _ h=>h⟩
 clear H;rintro ⟨j,g3,ds⟩ a w hI H;dsimp only at hI H;obtain ⟨hj,hnc,ru⟩:=hI;have V7:=Bh.mono ru;dsimp only [lca,aQ] at H;refine cK 4 H ?_ ?_ <;> clear H
 ·intro p64
  have hj2:j < l.length:=by omega
  obtain ⟨b,o,pA,pc,rfl,hrow,hp,hrep⟩:=Bv V7 hj2;refine aj 5 ?_;intro a H;refine aT jk (cs:=[_,_,_,_,_,_]) H wn rfl rfl (fun j v hj=>H.hp.aC (hrow j v hj)) rfl ?_;clear H;intro a H;refine dx jk H wn rfl ?_;clear H;intro b8 a w wV H;refine bq jk 0 (vs:=[_,_,_,_,_,_]) _ H wn rfl rfl rfl rfl rfl rfl rfl rfl ?_;clear H;intro w H;dsimp only [List.set,setRow] at H;refine aH 2 H ?_;clear H;intro a H;refine dx bC H wn rfl ?_;clear H;intro b9 a w qE H;refine bq bC 0 (vs:=[_]) _ H wn rfl rfl rfl rfl rfl rfl rfl rfl ?_;clear H;intro w H;dsimp only [List.set,setRow] at H;refine aH 5 H ?_;clear H;intro a H;refine fu ajJ (Li:=[_,_,_,_]++lV ds) (L:=[]) (St.un (A:=[_,_,_,_]) H) wn rfl (ahU (Hp.owns (Li:=[_,_,_,_]++lV ds) (St.un (A:=[_,_,_,_]) H).hp) l l[j].id _ V7) rfl ?_;clear H;rintro v70 g4 L70 a w ⟨bl,bi,rfl,rfl,hbl⟩ aco H;have H:=(St.WO (A:=[_,_,_,_,_]) (B:=lV ds) (H.perm wK));dsimp only [lca,aQ] at H;have hit:=ahT (l:=l) (id:=l[j].id) (bi:=bi) hbl (V7.mono aco) (aeD hok);refine aH 2 H ?_;clear H;intro a H;refine ahz (B:=[(_,_)]) (ι:=Unit) (κ:=Int) (Lc:=[(_,_),(_,_)]) (fun (k:Nat) (gh:Unit)=>[(b9,.cells #[vi k] 3 (0,0)),(b2,.cells #[vi 0] 42 (0,0))]) (fun (k:Nat) (gh:Unit)=>(lV ds++[])) (fun (k:Nat) (gh:Unit) (g:GH)=>k≤l.length) (fun (gx:Int)=>Code.ret) (fun (gx:Int)=>[(b9,.cells #[vi gx] 3 (0,0)),(b2,.cells #[vi 16] 42 (0,0))]) (fun (gx:Int)=>(lV ds++[])) (fun (gx:Int) (g:GH)=>TG l l[j]=true) (()) (by exact H.bY (Pl:=[_,_,_,_,_]) (bT:=[_,_,_,_,_]) [0,2,4,1,3] (by decide) rfl) rfl aax (hit) (fun _ _ h=>h) (fun e i g h=>absurd (of_decide_eq_false e) (by rw [bE] at h;omega)) rfl (fun k args g h=>by obtain ⟨_,_,rfl,_⟩:=afu h;rfl) (fun _ _ _ _ _ h=>h) (fun _ _ _ _ h=>h) (eG _) ?_ ?_ ?_
  ·clear H;intro l21 yH vE bk k args gh Sy w21 YD B21 a abZ D5 hI anX aoX apH H;obtain ⟨abZ,avY,rfl,axb⟩:=afu abZ;dsimp only [uj,List.cons_append,List.nil_append] at H;refine iE ?_;refine anX _ _ _ _ _ _ (by exact H) ?_;clear H;intro w H;refine dG 4 H ?_;clear H;intro a H;refine bq bC 3 (vs:=[_]) _ H wn rfl rfl rfl rfl rfl rfl rfl rfl ?_;clear H;intro w H;dsimp only [List.set,setRow] at H;refine eO 7 H ?_ ?_ <;> clear H
   ·intro FB
    refine aj 1 ?_;intro a H;refine bq iN 4 (vs:=[_]) _ H wn rfl rfl rfl rfl rfl rfl rfl rfl ?_;clear H;intro w H;dsimp only [List.set,setRow] at H;refine aI ?_;refine dW ?_;refine dw ?_;refine (apH ((k:Int)+1) _ _ _ _ _ (by exact H) ?_).1 rfl;exact eZ (by omega)
   intro FB
   intro a H;refine iE ?_;refine aoX (()) _ _ _ _ _ (by exact H) ?_
   omega
  ·clear H;intro Yx gh YW a w D5 hI H;dsimp only [lca,aQ] at H;refine dW ?_;refine dG 3 H ?_;clear H;intro a H;refine aI ?_;refine Iu ((j+1,YW,Yx :: ds)) (by exact (H.bY (Pl:=[_,_,_,_,_]) (bT:=[_,_,_]) [4,2,0] (by decide) rfl).sub ⟨rfl,rfl,rfl,rfl,rfl,aY⟩) ?_ ?_
   ·(try dsimp only);exact ⟨by omega,LB hj2 hnc (gD (by rw [bE] at hI;omega)),fun b o h=>D5 b o (aco b o (ru b o h))⟩
   first|omega|(dsimp only;omega)
  clear H;intro Yx x YW a w D5 hI H;dsimp only [lca,aQ] at H;refine dw ?_;refine (Bl H 0 rfl ?_).1;clear H;intro a w H;dsimp only [List.eraseIdx_cons_succ,List.eraseIdx_cons_zero] at H;refine (zZ (Lh:=[_,_,_,_]) _ H ?_).1;clear H;intro a w H;dsimp only [lca,aQ] at H;refine (leave1 H results90 (.cons (Bq iN H rfl (H.hp.qd 3 rfl rfl)) .nil) ?_).1
  first
   | exact H.rt (aB vi (by rw [fU,au (by omega)]))
   | exact H.rt (aB vi (by rw [ah (by simpa using iT)] at heq;rw [fU,ah (by omega),← heq,au (by simpa using iT)]))
   | exact H.rt (aB vi (by rw [fU,ah (by omega),ah (by rw [hok];decide),au hbad]))
   | exact H.rt (aB vi (by rw [fU,ah (by omega),ah (by rw [hok];decide),ah hbad,au (xR hj2 hI)]))
   | exact H.rt (aB vi (by rw [fU,ah (by omega),ah (by rw [hok];decide),ah hbad,ah (BQ (by omega) hnc)]))
 intro p64
 refine aj 2 ?_;intro a H;refine bq iN 0 (vs:=[_]) _ H wn rfl rfl rfl rfl rfl rfl rfl rfl ?_;clear H;intro w H;dsimp only [List.set,setRow] at H;refine aI ?_;refine dW ?_;refine dw ?_;refine (zZ (Lh:=[_,_]) _ H ?_).1;clear H;intro a w H;dsimp only [lca,aQ] at H;refine (leave1 H results90 (.cons (Bq iN H rfl (H.hp.qd 0 rfl rfl)) .nil) ?_).1
 first
  | exact H.rt (aB vi (by rw [fU,au (by omega)]))
  | exact H.rt (aB vi (by rw [ah (by simpa using iT)] at heq;rw [fU,ah (by omega),← heq,au (by simpa using iT)]))
  | exact H.rt (aB vi (by rw [fU,ah (by omega),ah (by rw [hok];decide),au hbad]))
  | exact H.rt (aB vi (by rw [fU,ah (by omega),ah (by rw [hok];decide),ah hbad,au (xR hj2 hI)]))
  | exact H.rt (aB vi (by rw [fU,ah (by omega),ah (by rw [hok];decide),ah hbad,ah (BQ (by omega) hnc)]))
end
section
open Go.RowKit
instance sS:Ty prog 34 1 24 [.slice none 0 0] false:=⟨by kernel_rfl,by kernel_rfl⟩
theorem sU:prog.underlying 34=some (.slice 167):=by kernel_rfl
instance:kR prog 34 (.slice 167):=⟨sU⟩
instance rP:Ty prog 167 2 32 [.string ⟨#[]⟩,.string ⟨#[]⟩] true:=⟨by kernel_rfl,by kernel_rfl⟩
instance BZ:dL prog 167 0 0:=⟨by kernel_rfl⟩
theorem LY:∀ args w,(callFunc 93 args).run prog w=.ok (.enter 93 args) w:=enters func93 rfl (by kernel_rfl)
instance aaX:dL prog 167 1 1:=⟨by kernel_rfl⟩
instance Uo:dL prog 36 0 0:=⟨by kernel_rfl⟩
theorem aaL:∀ args w,(callFunc 90 args).run prog w=.ok (.enter 90 args) w:=enters func90 rfl (by kernel_rfl)
instance vG:dL prog 36 1 1:=⟨by kernel_rfl⟩
theorem ajx:∀ args w,(callFunc 127 args).run prog w=.ok (.enter 127 args) w:=enters func127 rfl (by kernel_rfl)
instance Mc:dL prog 36 2 2:=⟨by kernel_rfl⟩
theorem ajy:∀ args w,(callFunc 128 args).run prog w=.ok (.enter 128 args) w:=enters func128 rfl (by kernel_rfl)
instance Md:dL prog 36 3 3:=⟨by kernel_rfl⟩
theorem ajz:∀ args w,(callFunc 129 args).run prog w=.ok (.enter 129 args) w:=enters func129 rfl (by kernel_rfl)
theorem akl:∀ args w,(callFunc 191 args).run prog w=.ok (.enter 191 args) w:=enters func191 rfl (by kernel_rfl)
theorem Sb {G:GH} {l:List iP} {A:Option Addr} {n c k:Nat} (hv:ay G (.sl 2 (l.map iP.dat)) (.slice A n c)) (hk:k < l.length):∃ b o,A=some ⟨b,o,none⟩∧(∀ j u,l[k].cells[j]?=some u→aC G b (o+k*2+j)=some u):=by
 obtain ⟨A',c',he,_,_,hg⟩:=hv.slice
 injection he with e1 e2 e3
 subst e1;obtain ⟨b,o,cs,h1,h2,h3,h4⟩:=hg k l[k].dat (by simp [hk]);have:=afY h4;subst this;exact ⟨b,o,h1,h3⟩
def FT (k:Nat) (x:iP) (pn:ByteArray):Int:=bP [bK (!oU x.name) 13,bK (decide (0 < (k:Int)) && (x.name.toList == pn.toList)) 7,bK (decide (0 < (k:Int)) && Op.bytesLess x.name.toList pn.toList) 6,sP x.value]
def xH (l:List iP) (k:Nat):Int:=match l[k]? with|some x=>FT k x ((l[k - 1]?.map iP.name).getD ⟨#[]⟩)|none=>0
theorem avq {G:GH} {bl:Nat} {l:List iP} {A:Option Addr} {n c:Nat} (hb:aC G bl 0=some (.slice A n c)) (hv:ay G (.sl 2 (l.map iP.dat)) (.slice A n c)) (hl:l.length≤4294967296) (ht:∀ x∈l,x.name.size < 4611686018427387904∧x.value.size < 4611686018427387904):vk (.func (.func 191) #[] #[(aK bl 0)]) G l.length (xH l):=by
 intro k hk G1 w0 hm hG;refine jM (caps:=[(aK bl 0)]) akl ?_;replace hb:=aD hm hb;replace hv:=hv.mono hm
 obtain rfl:n=l.length:=by have:=hv.len;simpa using this
 obtain ⟨b,o,rfl,hrow⟩:=Sb hv hk
 have hk1:k - 1 < l.length:=by omega
 obtain ⟨b',o',he',hrow'⟩:=Sb hv hk1
 injection he' with he'
 injection he' with e1 e2
 subst e1;subst e2;have hte:=ht _ (iq hk)
 have he:xH l k=FT k l[k] l[k - 1].name:=by unfold xH;rw [dV hk,dV hk1];rfl
 obtain ⟨x,hx⟩:∃ x,x=l[k]:=⟨_,rfl⟩;obtain ⟨y,hy⟩:∃ y,y=l[k - 1]:=⟨_,rfl⟩;rw [← hx] at hrow hte he;rw [← hy] at hrow' he;refine eN [(0,_),(1,_)] func191 rfl ntmps191 rfl rfl hG ?_;refine aj 4 ?_;intro a H;have H:=H.sub (T':=[(0,_),(1,_)]) ⟨rfl,rfl,aY⟩
 by_cases c0:0 < (k:Int)
 ·refine dI hmx [[],[],[0,1],[0,1,2],(ra 0 4),(ra 0 5),(ra 0 6),(ra 0 7),[],[8],(ra 0 10),(ra 0 11),(ra 0 11),(ra 0 13),(ra 0 14),(ra 0 15),(ra 0 11),(ra 0 11),(ra 0 11++[17]),(ra 0 11++[17,18]),(ra 0 11++ra 16 4),(ra 0 11++ra 16 5),(ra 0 11++ra 16 6),(ra 0 23),(ra 0 24),(ra 0 25),[],[26],(ra 0 28),(ra 0 29),(ra 0 29),(ra 0 31),(ra 0 32),(ra 0 33),(ra 0 29),(ra 0 29),(ra 0 29++[35]),(ra 0 29++[35,36]),(ra 0 29++ra 34 4),(ra 0 29++ra 34 5),(ra 0 29++ra 34 6),(ra 0 41),(ra 0 42),(ra 0 43),[],[],[44,45],[44,45,46],(ra 44 4),(ra 0 49),(ra 0 50),(ra 0 51),(ra 0 52)] [50,51,52] (by kernel_rfl) [_,_,_,_,_,.bool (oU x.name),_,vi (bK (!oU x.name) 13),_,_,_,_,_,_,_,_,_,_,vi ((max k 1:Nat):Int),vi ((k - 1:Nat):Int),_,_,_,.bool (x.name.toList == y.name.toList),.bool (decide (0 < (k:Int)) && (x.name.toList == y.name.toList)),vi (bK (decide (0 < (k:Int)) && (x.name.toList == y.name.toList)) 7),_,_,_,_,_,_,_,_,_,_,vi ((max k 1:Nat):Int),vi ((k - 1:Nat):Int),_,_,_,.bool (Op.bytesLess x.name.toList y.name.toList),.bool (decide (0 < (k:Int)) && Op.bytesLess x.name.toList y.name.toList),vi (bK (decide (0 < (k:Int)) && Op.bytesLess x.name.toList y.name.toList) 6),_,_,_,_,_,vi (sP x.value)] H (aF (X0 rfl fun hG=>Rg sS rfl (aD hG hb)) (Z0 rfl (Rm rfl)) (Z2 0 4 1 5 rfl (Ri sU rP rfl rfl)) (Z1 2 6 rfl (Rf BZ rfl)) (aF (X1 3 7 rfl fun hG=>Rg lY rfl (aD hG (hrow 0 _ rfl))) ?_ (Z1 5 9 rfl (Rn rfl)) ?_ (aF (Z0 rfl (Rm rfl)) (Z1 8 12 rfl (Rc rfl)) (Z1 9 13 rfl (Rm rfl)) (X1 10 14 rfl fun hG=>YR sS (aG c0) rfl (aD hG hb)) (aF (Z1 10 14 rfl (YM (aG c0) rfl)) (Z3 11 15 12 16 10 14 rfl (YI sU rP (aG c0) rfl rfl)) (Z2 13 17 10 14 rfl (YF BZ (aG c0) rfl)) (X2 14 18 10 14 rfl fun hG=>YR lY (aG c0) rfl (aD hG (hrow 0 _ rfl))) (aF (X1 10 14 rfl fun hG=>YR sS (aG c0) rfl (aD hG hb)) (Z1 10 14 rfl (YM (aG c0) rfl)) ?_ ?_ (aF (Z3 16 20 19 23 10 14 rfl (YI sU rP (aG c0) rfl rfl)) (Z2 20 24 10 14 rfl (YF BZ (aG c0) rfl)) (X2 21 25 10 14 rfl fun hG=>YR lY (aG c0) rfl (aD hG (hrow' 0 _ rfl))) ?_ (aF ?_ ?_ (Z0 rfl (Rm rfl)) (Z1 26 30 rfl (Rc rfl)) (aF (Z1 27 31 rfl (Rm rfl)) (X1 28 32 rfl fun hG=>YR sS (aG c0) rfl (aD hG hb)) (Z1 28 32 rfl (YM (aG c0) rfl)) (Z3 29 33 30 34 28 32 rfl (YI sU rP (aG c0) rfl rfl)) (aF (Z2 31 35 28 32 rfl (YF BZ (aG c0) rfl)) (X2 32 36 28 32 rfl fun hG=>YR lY (aG c0) rfl (aD hG (hrow 0 _ rfl))) (X1 28 32 rfl fun hG=>YR sS (aG c0) rfl (aD hG hb)) (Z1 28 32 rfl (YM (aG c0) rfl)) (aF ?_ ?_ (Z3 34 38 37 41 28 32 rfl (YI sU rP (aG c0) rfl rfl)) (Z2 38 42 28 32 rfl (YF BZ (aG c0) rfl)) (aF (X2 39 43 28 32 rfl fun hG=>YR lY (aG c0) rfl (aD hG (hrow' 0 _ rfl))) ?_ ?_ ?_ (aF (X0 rfl fun hG=>Rg sS rfl (aD hG hb)) (Z0 rfl (Rm rfl)) (Z2 44 48 45 49 rfl (Ri sU rP rfl rfl)) (Z1 46 50 rfl (Rf aaX rfl)) (aF (X1 47 51 rfl fun hG=>Rg lY rfl (aD hG (hrow 1 _ rfl))) ?_ (bS rfl) (bS rfl) (aW (bS rfl) cZ)))))))))))))) ?_
  ·refine dM 4 8 rfl rfl fun _ a w G1 hG HT H fin=>?_;refine s_call LY H wn rfl (LP _ _ H.ro x.name hte.1) rfl ?_;clear H;rintro v9 G9 a w ⟨rfl,-⟩ E8 H;exact fin H E8 (rfl)
  ·refine dM 6 10 rfl rfl fun _ a w G1 hG HT H fin=>?_;refine s_call jF H wn rfl (jK _ _ H.ro _ 13) rfl ?_;clear H;rintro v11 qM a w ⟨rfl,-⟩ lH H;exact fin H lH (rfl)
  ·refine dP 17 21 10 14 rfl rfl fun _ a w G1 hG HT H fin=>?_;refine FJ H (wg H rfl rfl (aG c0)) rfl rfl rfl ?_;clear H;intro a H;exact fin H iJ (by show _=_;first|rfl|exact aB vi (by omega))
  ·refine dP 18 22 10 14 rfl rfl fun _ a w G1 hG HT H fin=>?_;refine lC _ H (wg H rfl rfl (aG c0)) rfl rfl rfl (by omega) (by omega) rfl ?_;clear H;intro a H;exact fin H iJ (by show _=_;first|rfl|exact aB vi (by omega))
  ·refine tQ 15 19 22 26 10 14 rfl rfl fun _ a w G1 hG HT H fin=>?_;refine CQ H (wg H rfl rfl (aG c0)) rfl rfl rfl ?_;clear H;intro a H;exact fin H iJ rfl
  ·refine dP 10 14 23 27 rfl rfl fun _ a w G1 hG HT H fin=>?_;refine aH 1 H ?_;clear H;intro a H;exact fin H iJ (dJ (by first|(rw [eZ c0,tY];done)|(rw [gD c0,uf];done)))
  ·refine dM 24 28 rfl rfl fun _ a w G1 hG HT H fin=>?_;refine s_call jF H wn rfl (jK _ _ H.ro _ 7) rfl ?_;clear H;rintro v29 xM a w ⟨rfl,-⟩ Hr H;exact fin H Hr (rfl)
  ·refine dP 35 39 28 32 rfl rfl fun _ a w G1 hG HT H fin=>?_;refine FJ H (wg H rfl rfl (aG c0)) rfl rfl rfl ?_;clear H;intro a H;exact fin H iJ (by show _=_;first|rfl|exact aB vi (by omega))
  ·refine dP 36 40 28 32 rfl rfl fun _ a w G1 hG HT H fin=>?_;refine lC _ H (wg H rfl rfl (aG c0)) rfl rfl rfl (by omega) (by omega) rfl ?_;clear H;intro a H;exact fin H iJ (by show _=_;first|rfl|exact aB vi (by omega))
  ·refine tQ 33 37 40 44 28 32 rfl rfl fun _ a w G1 hG HT H fin=>?_;refine afb H (wg H rfl rfl (aG c0)) rfl rfl rfl ?_;clear H;intro a H;exact fin H iJ rfl
  ·refine dP 28 32 41 45 rfl rfl fun _ a w G1 hG HT H fin=>?_;refine aH 1 H ?_;clear H;intro a H;exact fin H iJ (dJ (by first|(rw [eZ c0,tY];done)|(rw [gD c0,uf];done)))
  ·refine dM 42 46 rfl rfl fun _ a w G1 hG HT H fin=>?_;refine s_call jF H wn rfl (jK _ _ H.ro _ 6) rfl ?_;clear H;rintro v47 N8 a w ⟨rfl,-⟩ DR H;exact fin H DR (rfl)
  ·refine dM 48 52 rfl rfl fun _ a w G1 hG HT H fin=>?_;refine s_call TU H wn rfl (XV _ _ H.ro x.value hte.2) rfl ?_;clear H;rintro v53 YS a w rfl Mx H;exact fin H Mx (rfl)
  clear H;intro a w G nH H hv;have H:=H.aV (hv 7 11 rfl rfl) rfl;have H:=H.aV (hv 25 29 rfl rfl) rfl;have H:=H.aV (hv 43 47 rfl rfl) rfl;have H:=H.aV (hv 49 53 rfl rfl) rfl;clear hv;refine iy rQ iN [_,_,_,_] [_,_,_,_] H wn rfl rfl rfl rfl rfl (by intro i q h;match i,h with|0,h=>exact h|1,h=>exact h|2,h=>exact h|3,h=>exact h|n+4,h=>simp at h) rfl rfl ?_;clear H;intro b54 a w anT H;obtain ⟨G54,aoL,Vd,H⟩:=H.dS;refine s_call sj H wn rfl (sw _ _ H.ro _ _ (Im [bK (!oU x.name) 13,bK (decide (0 < (k:Int)) && (x.name.toList == y.name.toList)) 7,bK (decide (0 < (k:Int)) && Op.bytesLess x.name.toList y.name.toList) 6,sP x.value] Vd (show 4≤maxLen by decide))) rfl ?_;clear H;rintro v55 _ a w ⟨rfl,rfl⟩ - H;refine kH H (Ra rfl ?_);clear H;intro a H;refine aI ⟨rfl,?_⟩;refine dW ?_;refine wS 0 H ?_;rw [he];rfl
 refine dI hmx [[],[],[0,1],[0,1,2],(ra 0 4),(ra 0 5),(ra 0 6),(ra 0 7),[],[8],(ra 0 10),(ra 0 11),(ra 0 11),(ra 0 13),(ra 0 14),(ra 0 15),(ra 0 11),(ra 0 11),(ra 0 11++[17]),(ra 0 11++[17,18]),(ra 0 11++ra 16 4),(ra 0 11++ra 16 5),(ra 0 11++ra 16 6),(ra 0 23),(ra 0 24),(ra 0 25),[],[26],(ra 0 28),(ra 0 29),(ra 0 29),(ra 0 31),(ra 0 32),(ra 0 33),(ra 0 29),(ra 0 29),(ra 0 29++[35]),(ra 0 29++[35,36]),(ra 0 29++ra 34 4),(ra 0 29++ra 34 5),(ra 0 29++ra 34 6),(ra 0 41),(ra 0 42),(ra 0 43),[],[],[44,45],[44,45,46],(ra 44 4),(ra 0 49),(ra 0 50),(ra 0 51),(ra 0 52)] [50,51,52] (by kernel_rfl) [_,_,_,_,_,.bool (oU x.name),_,vi (bK (!oU x.name) 13),_,_,_,undef,undef,undef,undef,undef,undef,undef,undef,undef,undef,undef,undef,undef,.bool (decide (0 < (k:Int)) && (x.name.toList == y.name.toList)),vi (bK (decide (0 < (k:Int)) && (x.name.toList == y.name.toList)) 7),_,_,_,undef,undef,undef,undef,undef,undef,undef,undef,undef,undef,undef,undef,undef,.bool (decide (0 < (k:Int)) && Op.bytesLess x.name.toList y.name.toList),vi (bK (decide (0 < (k:Int)) && Op.bytesLess x.name.toList y.name.toList) 6),_,_,_,_,_,vi (sP x.value)] H (aF (X0 rfl fun hG=>Rg sS rfl (aD hG hb)) (Z0 rfl (Rm rfl)) (Z2 0 4 1 5 rfl (Ri sU rP rfl rfl)) (Z1 2 6 rfl (Rf BZ rfl)) (aF (X1 3 7 rfl fun hG=>Rg lY rfl (aD hG (hrow 0 _ rfl))) ?_ (Z1 5 9 rfl (Rn rfl)) ?_ (aF (Z0 rfl (Rm rfl)) (Z1 8 12 rfl (Rc rfl)) (Z1 9 13 rfl (Rm rfl)) (aO 10 (aN c0) rfl rfl) (aF (aO 10 (aN c0) rfl rfl) (aO 10 (aN c0) rfl rfl) (aO 10 (aN c0) rfl rfl) (aO 10 (aN c0) rfl rfl) (aF (aO 10 (aN c0) rfl rfl) (aO 10 (aN c0) rfl rfl) (aO 10 (aN c0) rfl rfl) (aO 10 (aN c0) rfl rfl) (aF (aO 10 (aN c0) rfl rfl) (aO 10 (aN c0) rfl rfl) (aO 10 (aN c0) rfl rfl) (aO 10 (aN c0) rfl rfl) (aF ?_ ?_ (Z0 rfl (Rm rfl)) (Z1 26 30 rfl (Rc rfl)) (aF (Z1 27 31 rfl (Rm rfl)) (aO 28 (aN c0) rfl rfl) (aO 28 (aN c0) rfl rfl) (aO 28 (aN c0) rfl rfl) (aF (aO 28 (aN c0) rfl rfl) (aO 28 (aN c0) rfl rfl) (aO 28 (aN c0) rfl rfl) (aO 28 (aN c0) rfl rfl) (aF (aO 28 (aN c0) rfl rfl) (aO 28 (aN c0) rfl rfl) (aO 28 (aN c0) rfl rfl) (aO 28 (aN c0) rfl rfl) (aF (aO 28 (aN c0) rfl rfl) (aO 28 (aN c0) rfl rfl) ?_ ?_ (aF (X0 rfl fun hG=>Rg sS rfl (aD hG hb)) (Z0 rfl (Rm rfl)) (Z2 44 48 45 49 rfl (Ri sU rP rfl rfl)) (Z1 46 50 rfl (Rf aaX rfl)) (aF (X1 47 51 rfl fun hG=>Rg lY rfl (aD hG (hrow 1 _ rfl))) ?_ (bS rfl) (bS rfl) (aW (bS rfl) cZ)))))))))))))) ?_
 ·refine dM 4 8 rfl rfl fun _ a w G1 hG HT H fin=>?_;refine s_call LY H wn rfl (LP _ _ H.ro x.name hte.1) rfl ?_;clear H;rintro v9 G9 a w ⟨rfl,-⟩ E8 H;exact fin H E8 (rfl)
 ·refine dM 6 10 rfl rfl fun _ a w G1 hG HT H fin=>?_;refine s_call jF H wn rfl (jK _ _ H.ro _ 13) rfl ?_;clear H;rintro v11 qM a w ⟨rfl,-⟩ lH H;exact fin H lH (rfl)
 ·refine dP 10 14 23 27 rfl rfl fun _ a w G1 hG HT H fin=>?_;refine aH 1 H ?_;clear H;intro a H;exact fin H iJ (dJ (by first|(rw [eZ c0,tY];done)|(rw [gD c0,uf];done)))
 ·refine dM 24 28 rfl rfl fun _ a w G1 hG HT H fin=>?_;refine s_call jF H wn rfl (jK _ _ H.ro _ 7) rfl ?_;clear H;rintro v29 xM a w ⟨rfl,-⟩ Hr H;exact fin H Hr (rfl)
 ·refine dP 28 32 41 45 rfl rfl fun _ a w G1 hG HT H fin=>?_;refine aH 1 H ?_;clear H;intro a H;exact fin H iJ (dJ (by first|(rw [eZ c0,tY];done)|(rw [gD c0,uf];done)))
 ·refine dM 42 46 rfl rfl fun _ a w G1 hG HT H fin=>?_;refine s_call jF H wn rfl (jK _ _ H.ro _ 6) rfl ?_;clear H;rintro v47 N8 a w ⟨rfl,-⟩ DR H;exact fin H DR (rfl)
 ·refine dM 48 52 rfl rfl fun _ a w G1 hG HT H fin=>?_;refine s_call TU H wn rfl (XV _ _ H.ro x.value hte.2) rfl ?_;clear H;rintro v53 YS a w rfl Mx H;exact fin H Mx (rfl)
 clear H;intro a w G nH H hv;have H:=H.aV (hv 7 11 rfl rfl) rfl;have H:=H.aV (hv 25 29 rfl rfl) rfl;have H:=H.aV (hv 43 47 rfl rfl) rfl;have H:=H.aV (hv 49 53 rfl rfl) rfl;clear hv;refine iy rQ iN [_,_,_,_] [_,_,_,_] H wn rfl rfl rfl rfl rfl (by intro i q h;match i,h with|0,h=>exact h|1,h=>exact h|2,h=>exact h|3,h=>exact h|n+4,h=>simp at h) rfl rfl ?_;clear H;intro b54 a w anT H;obtain ⟨G54,aoL,Vd,H⟩:=H.dS;refine s_call sj H wn rfl (sw _ _ H.ro _ _ (Im [bK (!oU x.name) 13,bK (decide (0 < (k:Int)) && (x.name.toList == y.name.toList)) 7,bK (decide (0 < (k:Int)) && Op.bytesLess x.name.toList y.name.toList) 6,sP x.value] Vd (show 4≤maxLen by decide))) rfl ?_;clear H;rintro v55 _ a w ⟨rfl,rfl⟩ - H;refine kH H (Ra rfl ?_);clear H;intro a H;refine aI ⟨rfl,?_⟩;refine dW ?_;refine wS 0 H ?_;rw [he];rfl
def zQ (l:List iP):Int:=bP [bK (decide (128 < (l.length:Int))) 9,fV (xH l) (min l.length 128)]
theorem aia (G:GH) (w0:World) (hG:Hold G w0) (l:List iP) (v:ak) (hv:ay G (.sl 2 (l.map iP.dat)) v) (hl:l.length≤4294967296) (ht:∀ x∈l,x.name.size < 4611686018427387904∧x.value.size < 4611686018427387904) :
  Calls prog 129 #[v] w0 (bB w0 G fun u G'=>u=vi (zQ l)):=by
 obtain ⟨A,c,rfl,hc1,hc2,-⟩:=hv.slice;rw [bE] at *;refine eN [(0,_)] func129 rfl ntmps129 rfl rfl hG ?_;refine aj 1 ?_;intro a H;refine dN (cs:=[_]) H wn rfl rfl rfl ?_;clear H;intro b1 a w hb1 H;refine aH 3 H ?_;clear H;intro a H;have H:=H.sub (T':=[(1,_)]) ⟨rfl,aY⟩;obtain ⟨Ga,hma,hb1',H⟩:=H.dS
 have hbl:aC Ga b1 0=some (.slice A l.length c):=by unfold aC;rw [hb1'];rfl
 have hcb:=avq hbl (hv.mono hma) hl ht;refine dI hmx [[],[0],[0,1],[0,1,2],[],[4],[4,5],[],(ra 0 8),(ra 0 9),(ra 0 10),(ra 0 11)] [9,10,11] (by kernel_rfl) [_,_,_,vi (bK (decide (128 < (l.length:Int))) 9),_,_,vi ((min l.length 128:Nat):Int),.func (.func 191) #[] #[(aK b1 0)],vi (fV (xH l) (min l.length 128))] H (aF (X0 rfl fun hG=>Rg sS rfl (aD hG hbl)) (Z1 0 3 rfl (Rl sU rfl)) (Z1 1 4 rfl (Rc rfl)) ?_ (aF (X0 rfl fun hG=>Rg sS rfl (aD hG hbl)) (Z1 4 7 rfl (Rl sU rfl)) ?_ ?_ (aF ?_ (bS rfl) (bS rfl) (bS rfl) cZ))) ?_
 ·refine dM 2 5 rfl rfl fun _ a w G1 hG HT H fin=>?_;refine s_call jF H wn rfl (jK _ _ H.ro _ 9) rfl ?_;clear H;rintro v6 G6 a w ⟨rfl,-⟩ iw H;exact fin H iw (rfl)
 ·refine dM 5 8 rfl rfl fun _ a w G1 hG HT H fin=>?_;refine RF H wn rfl rfl rfl ?_;clear H;intro a H;exact fin H iJ (aB vi (by omega))
 ·refine Df rfl fun _ a w G1 hG HT H fin=>?_;refine pK H wn rfl rfl ?_;clear H;intro a H;exact fin H iJ rfl
 ·refine dP 6 9 7 10 rfl rfl fun _ a w G1 hG HT H fin=>?_;refine s_call Js H wn rfl (LA _ _ H.ro (min l.length 128) (xH l) _ (by omega) ((hcb.mono hG).le (Nat.min_le_left _ _))) rfl ?_;clear H;rintro v11 qM a w rfl lH H;exact fin H lH (rfl)
 clear H;intro a w G nH H hv;have H:=H.aV (hv 3 6 rfl rfl) rfl;have H:=H.aV (hv 8 11 rfl rfl) rfl;clear hv;refine iy rQ iN [_,_] [_,_] H wn rfl rfl rfl rfl rfl (by intro i q h;match i,h with|0,h=>exact h|1,h=>exact h|n+2,h=>simp at h) rfl rfl ?_;clear H;intro b12 a w DU H;obtain ⟨C9,A9,Hw,H⟩:=H.dS;refine s_call sj H wn rfl (sw _ _ H.ro _ _ (Ae Hw)) rfl ?_;clear H;rintro v13 _ a w ⟨rfl,rfl⟩ - H;refine kH H (Ra rfl ?_);clear H;intro a H;refine aI ⟨rfl,?_⟩;refine dW ?_;refine wS 0 H ?_;exact rfl
structure qN where
 styles:List bH
 lists:List dz
 comments:List eY
 vars:List iP
structure tV (G:GH) (s:qN) (a b c d:ak):Prop where
 st:ay G (.sl 6 (s.styles.map bH.dat)) a
 li:ay G (.sl 2 (s.lists.map dz.dat)) b
 cm:ay G (.sl 6 (s.comments.map eY.dat)) c
 va:ay G (.sl 2 (s.vars.map iP.dat)) d
structure Ll (s:qN):Prop where
 sn:∀ x∈s.styles,x.name.size≤4611686018427387904
 ln:s.lists.length≤4294967296
 lt:∀ x∈s.lists,∀ y∈x.levels,y.zx.size < 4611686018427387904
 cn:s.comments.length≤4294967296
 ct:∀ x∈s.comments,x.author.size < 4611686018427387904∧x.text.size < 4611686018427387904
 vn:s.vars.length≤4294967296
 vt:∀ x∈s.vars,x.name.size < 4611686018427387904∧x.value.size < 4611686018427387904
 pl:∀ x∈s.styles,x.props.length≤4294967296
 ll:∀ x∈s.lists,x.levels.length≤4294967296
def jU (s:qN):Int:=bP [fU s.styles,wM s.lists,um s.comments,zQ s.vars]
theorem ahZ (G:GH) (w0:World) (hG:Hold G w0) (s:qN) (a b c d:ak) (hR:tV G s a b c d) (hz:Ll s) :
  Calls prog 73 #[.agg #[a,b,c,d]] w0 (bB w0 G fun u G'=>u=vi (jU s)):=by
 obtain ⟨sA,sn,sc,rfl⟩:=hR.st.form;obtain ⟨lA,ln,lc,rfl⟩:=hR.li.form;obtain ⟨cA,cn,cc,rfl⟩:=hR.cm.form;obtain ⟨vA,vn,vc,rfl⟩:=hR.va.form;refine eN [(0,_)] func73 rfl ntmps73 rfl rfl hG ?_;refine aj 1 ?_;intro a H;refine dN (cs:=[_,_,_,_]) H wn rfl rfl rfl ?_;clear H;intro b1 a w hb1 H;refine aH 3 H ?_;clear H;intro a H;have H:=H.sub (T':=[(1,_)]) ⟨rfl,aY⟩;obtain ⟨Ga,hma,hb1',H⟩:=H.dS
 have hc0:aC Ga b1 0=some (.slice sA sn sc):=by unfold aC;rw [hb1'];rfl
 have hc1:aC Ga b1 1=some (.slice lA ln lc):=by unfold aC;rw [hb1'];rfl
 have hc2:aC Ga b1 2=some (.slice cA cn cc):=by unfold aC;rw [hb1'];rfl
 have hc3:aC Ga b1 3=some (.slice vA vn vc):=by unfold aC;rw [hb1'];rfl
 refine dI hmx [[],[0],[0,1],[],[3],(ra 0 5),[],[6],(ra 0 8),[],[9],(ra 0 11),(ra 0 12),(ra 0 13),(ra 0 14)] [12,13,14] (by kernel_rfl) [_,_,vi (fU s.styles),_,_,vi (wM s.lists),_,_,vi (um s.comments),_,_,vi (zQ s.vars)] H (aF (Z0 rfl (Rf Uo rfl)) (X1 0 3 rfl fun hG=>Rg Eu rfl (aD hG hc0)) ?_ (Z0 rfl (Rf vG rfl)) (aF (X1 3 6 rfl fun hG=>Rg oL rfl (aD hG hc1)) ?_ (Z0 rfl (Rf Mc rfl)) (X1 6 9 rfl fun hG=>Rg Bw rfl (aD hG hc2)) (aF ?_ (Z0 rfl (Rf Md rfl)) (X1 9 12 rfl fun hG=>Rg sS rfl (aD hG hc3)) ?_ (aW (bS rfl) (aW (bS rfl) (aW (bS rfl) cZ)))))) ?_
 ·refine dM 1 4 rfl rfl fun _ a w G1 hG HT H fin=>?_;refine s_call aaL H wn rfl (ZL _ _ H.ro s.styles _ ((hR.st.mono hma).mono hG) hz.sn) rfl ?_;clear H;rintro v5 G5 a w rfl wU H;exact fin H wU (rfl)
 ·refine dM 4 7 rfl rfl fun _ a w G1 hG HT H fin=>?_;refine s_call ajx H wn rfl (ahX _ _ H.ro s.lists _ ((hR.li.mono hma).mono hG) hz.ln hz.lt) rfl ?_;clear H;rintro v8 G8 a w rfl pW H;exact fin H pW (rfl)
 ·refine dM 7 10 rfl rfl fun _ a w G1 hG HT H fin=>?_;refine s_call ajy H wn rfl (ahW _ _ H.ro s.comments _ ((hR.cm.mono hma).mono hG) hz.cn hz.ct) rfl ?_;clear H;rintro v11 qM a w rfl lH H;exact fin H lH (rfl)
 ·refine dM 10 13 rfl rfl fun _ a w G1 hG HT H fin=>?_;refine s_call ajz H wn rfl (aia _ _ H.ro s.vars _ ((hR.va.mono hma).mono hG) hz.vn hz.vt) rfl ?_;clear H;rintro v14 qo a w rfl DL H;exact fin H DL (rfl)
 clear H;intro a w G nH H hv;have H:=H.aV (hv 2 5 rfl rfl) rfl;have H:=H.aV (hv 5 8 rfl rfl) rfl;have H:=H.aV (hv 8 11 rfl rfl) rfl;have H:=H.aV (hv 11 14 rfl rfl) rfl;clear hv;refine iy rQ iN [_,_,_,_] [_,_,_,_] H wn rfl rfl rfl rfl rfl (by intro i q h;match i,h with|0,h=>exact h|1,h=>exact h|2,h=>exact h|3,h=>exact h|n+4,h=>simp at h) rfl rfl ?_;clear H;intro b15 a w Va H;obtain ⟨Ey,tH,anM,H⟩:=H.dS;refine s_call sj H wn rfl (sw _ _ H.ro _ _ (Im [fU s.styles,wM s.lists,um s.comments,zQ s.vars] anM (show 4≤maxLen by decide))) rfl ?_;clear H;rintro v16 _ a w ⟨rfl,rfl⟩ - H;refine kH H (Ra rfl ?_);clear H;intro a H;refine aI ⟨rfl,?_⟩;refine dW ?_;refine wS 0 H ?_;exact rfl
end
section
open Go.RowKit
def iU:Nat→List (Int × ak)→List MapEntry
 | _,[]=>[]
 | i,(k,v) :: r=>⟨.int .i64 k,v,i⟩ :: iU (i+1) r
theorem adZ (x:Int × ak):∀ (i:Nat) (l:List (Int × ak)),iU i (l++[x])=iU i l++[⟨.int .i64 x.1,x.2,i+l.length⟩]
 | _,[]=>rfl
 | i,k :: r=>by
  rw [kr,iU,adZ x (i+1) r,iU,kr,jS,show i+1+r.length=i+(r.length+1) by omega]
def vT (x:Int):List (Int × ak)→Option ak
 | []=>none
 | (k,v) :: r=>if k=x then some v else vT x r
theorem Nf {x:Int}:∀ {l:List (Int × ak)},x∉l.map (·.1)→vT x l=none
 | [],_=>rfl
 | (k,v) :: r,h=>by
  rw [vT,ah (fun e=>h (by simp [e])),Nf (fun hm=>h (jT _ hm))]
theorem Ut (x:Int):∀ (i j:Nat) (l:List (Int × ak)),∃ an,Instr.findNow (.int .i64) (.int .i64 x) (iU i l) j=some an∧an.map (·.2)=vT x l
 | _,_,[]=>⟨none,rfl,rfl⟩
 | i,j,(k,v) :: r=>by
  obtain ⟨an,h1,h2⟩:=Ut x (i+1) (j+1) r
  by_cases e:k=x
  ·subst e
   exact ⟨some (j,v),by simp only [iU,Instr.findNow,Instr.sameNow,au,beq_self_eq_true],by rw [vT,au rfl];rfl⟩
  ·have hb:(x == k)=false:=by simp;exact fun h=>e h.symm
   exact ⟨an,by simpa only [iU,Instr.findNow,Instr.sameNow,au,hb] using h1,by rw [vT,ah e];exact h2⟩
abbrev eP (l:List (Int × ak)):Obj:=.map (iU 0 l).toArray l.length
section
variable {N:Nat} {D:List Deferred} {w0:World} {F:Nat→Prop} {G0 G:GH} {L:OL} {T:List (Nat × ak)}
variable {r:Option Nat} {P:Program} {ops:Array Oper} {Q:Exit→Act→World→Prop} {rest:List Oper} {a:Act} {w:World}
variable {d:Nat} {ty:TypeId} {pos:String} {aP:Array Edge} {g:Option (Nat × Bool)}
theorem Bu {t kt et:TypeId} {x y:Operand} {b:Nat} {l:List (Int × ak)} {ky:Int} {zv:ak} (hm:P.underlying t=some (.map kt et)) (hk:P.underlying kt=some (.int .i64)) (hz:(P.info? et).map (fun i=>i.zero)=some (some zv)) (H:St N D w0 F G0 G L T a w)
  (hw:Region.wanted ⟨some d,.lookup t x y false,ty,pos,aP,g⟩ (yielded ops a.tmps)=true) (hx:ev T x=some (.map (some b))) (hy:ev T y=some (.int .i64 ky)) (hb:w.heap[b]?=some (eP l)) (hd:Nat.blt d N=true)
  (k:∀ a',St N D w0 F G0 G L ((d,(vT ky l).getD zv) :: T) a' w→WL r P ops Q rest a' w):WL r P ops Q (⟨some d,.lookup t x y false,ty,pos,aP,g⟩ :: rest) a w:=by
 obtain ⟨an,hf,han⟩:=Ut ky 0 0 l
 obtain ⟨inf,hi1,hi2⟩:=oO.1 hz
 refine fQ (v:=(vT ky l).getD zv) (w':=w) hw rfl ?_ (k _ (H.put hd _ H.hp))
 have hkey:MapKept.IsKey (.int .i64) (.int .i64 ky):=by trivial
 have hf2:Instr.findNow (.int .i64) (.int .i64 ky) (iU 0 l).toArray.toList 0=some an:=by simpa using hf
 replace hb:w.heap[b]?=some (.map (iU 0 l).toArray l.length):=hb
 generalize (iU 0 l).toArray=es at hb hf2
 have h1:=MapKept.run_checkKey (P:=P) (w:=w) hk hkey es.isEmpty 9999
 have h2:=MapKept.run_findKey (P:=P) (w:=w) hk hf2
 rw [← han]
 cases an with
 | none=>simp [execOp,Instr.lookup,H.ev hx,H.ev hy,dX,nO hm,MapKept.run_getObj_map hb,h1,h2,Result.andThen,zeroValue,FE hi1,hi2]
 | some q=>simp [execOp,Instr.lookup,H.ev hx,H.ev hy,dX,nO hm,MapKept.run_getObj_map hb,h1,h2,Result.andThen]
theorem NC {t kt et:TypeId} {x y z:Operand} {b i:Nat} {l:List (Int × ak)} {ky:Int} {v:ak} (hm:P.underlying t=some (.map kt et)) (hk:P.underlying kt=some (.int .i64)) (H:St N D w0 F G0 G L T a w)
  (hw:Region.wanted ⟨none,.mapUpdate t x y z,ty,pos,aP,g⟩ (yielded ops a.tmps)=true) (hx:ev T x=some (.map (some b))) (hy:ev T y=some (.int .i64 ky)) (hzv:ev T z=some v) (hi:L[i]?=some (b,eP l)) (hn:vT ky l=none)
  (k:∀ w',St N D w0 F G0 G (L.set i (b,eP (l++[(ky,v)]))) T a w'→WL r P ops Q rest a w'):WL r P ops Q (⟨none,.mapUpdate t x y z,ty,pos,aP,g⟩ :: rest) a w:=by
 obtain ⟨an,hf,han⟩:=Ut ky 0 0 l
 have hnone:an=none:=by
  rw [hn] at han
  cases an with
  | none=>rfl
  | some q=>cases han
 subst hnone
 refine afc (i:=i) hm hk H hw hx hy hzv hi (by trivial) (by simpa using hf) ?_
 intro w' H'
 have e:(iU 0 l).toArray.push ⟨.int .i64 ky,v,l.length⟩=(iU 0 (l++[(ky,v)])).toArray:=by
  rw [adZ,List.push_toArray,gX]
 refine k w' ?_
 rw [e] at H'
 rw [eP,jc]
 exact H'
end
end
section
open Go.RowKit
theorem xG:prog.underlying 96=some (.map 3 4):=by kernel_rfl
instance:kR prog 96 (.map 3 4):=⟨xG⟩
instance mF:Ty prog 82 3 32 [.int .i64 0,.string ⟨#[]⟩,.int .i64 0] true:=⟨by kernel_rfl,by kernel_rfl⟩
theorem auF:sV prog 98 [(0,1),(1,1),(2,1),(3,1),(4,1),(5,1)] [.map none,.map none,.map none,.map none,.map none,.int .i64 0]:=⟨by kernel_rfl,by kernel_rfl⟩
instance amm:dL prog 38 3 7:=⟨by kernel_rfl⟩
instance amr:dL prog 98 0 0:=⟨by kernel_rfl⟩
instance auU:Ty prog 95 1 8 [.map none] false:=⟨by kernel_rfl,by kernel_rfl⟩
instance ams:dL prog 98 1 1:=⟨by kernel_rfl⟩
instance FM:Ty prog 96 1 8 [.map none] false:=⟨by kernel_rfl,by kernel_rfl⟩
instance O6:dL prog 38 2 6:=⟨by kernel_rfl⟩
instance uW:Ty prog 30 1 24 [.slice none 0 0] false:=⟨by kernel_rfl,by kernel_rfl⟩
theorem uX:prog.underlying 30=some (.slice 82):=by kernel_rfl
instance:kR prog 30 (.slice 82):=⟨uX⟩
instance Me:dL prog 98 2 2:=⟨by kernel_rfl⟩
instance Ur:dL prog 82 0 0:=⟨by kernel_rfl⟩
structure bD where
 id:Int
 author:ByteArray
 time:Int
def bD.dat (x:bD):List Dat:=[li x.id,.lf (.string x.author),li x.time]
abbrev bD.cells (x:bD):List ak:=[vi x.id,.string x.author,vi x.time]
theorem Rx {G:GH} {x:bD} {cs:List ak} (h:aZ G x.dat cs):cs=x.cells:=by
 simp only [bD.dat,aZ,ay] at h
 obtain ⟨_,_,rfl,⟨rfl,_⟩,_,_,rfl,⟨rfl,_⟩,_,_,rfl,⟨rfl,_⟩,rfl⟩:=h
 rfl
theorem FH {G:GH} {l:List bD} {A:Option Addr} {n c k:Nat} (hv:ay G (.sl 3 (l.map bD.dat)) (.slice A n c)) (hk:k < l.length):∃ b o,A=some ⟨b,o,none⟩∧(∀ j u,l[k].cells[j]?=some u→aC G b (o+k*3+j)=some u):=by
 obtain ⟨A',c',he,_,_,hg⟩:=hv.slice
 injection he with e1 e2 e3
 subst e1;obtain ⟨b,o,cs,h1,h2,h3,h4⟩:=hg k l[k].dat (by simp [hk]);have:=Rx h4;subst this;exact ⟨b,o,h1,h3⟩
abbrev fZ (b ms ml mr mb mu:Nat) (n:Int):Nat × Obj:=(b,.cells #[.map (some ms),.map (some ml),.map (some mr),.map (some mb),.map (some mu),vi n] 98 (0,0))
def Bn (l:List bH):List (Int × ak):=l.map fun s=>(s.id,vi s.kind)
def fI (l:List Int):List (Int × ak):=l.map fun k=>(k,.bool true)
structure xL (us:List Int) (G:GH) (st:List bH) (li:List dz) (rv:List bD) (ms ml mr mu:Nat):Prop where
 sty:G ms=some (eP (Bn st))
 lU:G ml=some (eP (fI (li.map dz.id)))
 rev:G mr=some (eP (fI (rv.map bD.id)))
 use:G mu=some (eP (fI us))
theorem xL.mono {us:List Int} {G G':GH} {st:List bH} {li:List dz} {rv:List bD} {ms ml mr mu:Nat} (h:xL us G st li rv ms ml mr mu) (hm:∀ b o,G b=some o→G' b=some o):xL us G' st li rv ms ml mr mu:=⟨hm _ _ h.sty,hm _ _ h.lU,hm _ _ h.rev,hm _ _ h.use⟩
structure Sv (G:GH) (st:List bH) (li:List dz) (rv:List bD) (ms ml mr:Nat):Prop where
 sty:G ms=some (eP (Bn st))
 lU:G ml=some (eP (fI (li.map dz.id)))
 rev:G mr=some (eP (fI (rv.map bD.id)))
theorem Sv.with {us:List Int} {G G':GH} {st:List bH} {li:List dz} {rv:List bD} {ms ml mr mu:Nat} (h:Sv G st li rv ms ml mr) (hm:∀ b o,G b=some o→G' b=some o) (hu:G' mu=some (eP (fI us))):xL us G' st li rv ms ml mr mu:=⟨hm _ _ h.sty,hm _ _ h.lU,hm _ _ h.rev,hu⟩
def zK (l:List Int):Prop:=∀ (k:Nat) (h:k < l.length),l[k]∉l.take k
theorem aqX {l:List bH} {k:Nat} (h:k < l.length):Bn (l.take (k+1))=Bn (l.take k)++[(l[k].id,vi l[k].kind)]:=by rw [Bn,gI h,lg];rfl
theorem adW {l:List Int} {k:Nat} (h:k < l.length):fI (l.take (k+1))=fI (l.take k)++[(l[k],.bool true)]:=by rw [fI,gI h,lg];rfl
theorem aqW {l:List bH} {k:Nat} (f:zK (l.map bH.id)) (h:k < l.length):vT l[k].id (Bn (l.take k))=none:=by
 refine Nf ?_;have:=f k (by simpa using h)
 simpa [Bn,List.map_take,List.map_map,Function.comp_def] using this
theorem adV {l:List Int} {k:Nat} (f:zK l) (h:k < l.length):vT l[k] (fI (l.take k))=none:=by
 refine Nf ?_;have:=f k h
 simpa [fI,List.map_map,Function.comp_def] using this
theorem arE (G:GH) (w0:World) (hO:fM G [] w0) (D:gM) (st:List bH) (li:List dz) (rv:List bD) (hst:ay G (.sl 6 (st.map bH.dat)) (aM D.s1)) (wW:ay G (.sl 2 (li.map dz.dat)) (aM D.s2)) (jO:ay G (.sl 3 (rv.map bD.dat)) (aM D.r))
  (f1:zK (st.map bH.id)) (f2:zK (li.map dz.id)) (f3:zK (rv.map bD.id)) (z1:st.length≤4294967296) (z2:li.length≤4294967296) (z3:rv.length≤4294967296) :
  Calls prog 45 #[D.val] w0 (fB w0 G [] fun u G' L'=>∃ b ms ml mr mb mu,u=(aK b 0)∧L'=[fZ b ms ml mr mb mu 0,(mb,eP []),(mu,eP [])]∧Sv G' st li rv ms ml mr):=by
 obtain ⟨df,dp,dd,dy,⟨rA,rn,rc⟩,⟨sA,sn,sc⟩,⟨lA,ln,lc⟩,d3,d4,ins,mv⟩:=D;dsimp only at hst wW jO
 obtain rfl:sn=st.length:=by have:=hst.len;simpa using this
 obtain rfl:ln=li.length:=by have:=wW.len;simpa using this
 obtain rfl:rn=rv.length:=by have:=jO.len;simpa using this
 have hml:maxLen=9223372036854775807:=rfl;refine iM (N:=64) (T:=[(0,_)]) func45 rfl ntmps45 rfl rfl hO ?_;refine aj 1 ?_;intro a H;refine dN (cs:=[_,_,_,_,_,_,_,_,_,_,_]) H wn rfl rfl rfl ?_;clear H;intro b1 a w hb1 H;refine aH 2 H ?_;clear H;intro a H;obtain ⟨Ga,hma,hb1',H⟩:=H.dS
 have hc7:aC Ga b1 7=some (.slice sA st.length sc):=by unfold aC;rw [hb1'];rfl
 have hc8:aC Ga b1 8=some (.slice lA li.length lc):=by unfold aC;rw [hb1'];rfl
 have hc6:aC Ga b1 6=some (.slice rA rv.length rc):=by unfold aC;rw [hb1'];rfl
 replace hst:=hst.mono hma;replace wW:=wW.mono hma;replace jO:=jO.mono hma;refine tq ?_;refine IK H wn rfl ?_;clear H;intro b10 a w E9 H;refine IK H wn rfl ?_;clear H;intro b11 a w Hu H;refine IK H wn rfl ?_;clear H;intro b12 a w DU H;refine IK H wn rfl ?_;clear H;intro b13 a w JE H;refine IK H wn rfl ?_;clear H;intro b14 a w U9 H;refine jZ auF [_,_,_,_,_,_] H wn rfl rfl rfl rfl ?_;clear H;intro a H;refine dN (cs:=[_,_,_,_,_,_]) H wn rfl rfl rfl ?_;clear H;intro b16 a w awi H;refine aH 11 H ?_;clear H;intro a H;refine dD (ι:=Nat × GH) (Tc:=[(1,_),(3,_),(19,_),(20,_)]) (Lc:=[(_,_),(_,_),(_,_),(_,_),(_,_)]) (fun gh=>[(21,vi gh.1)]) (fun gh=>[(b10,eP (Bn (st.take gh.1)))]) (fun gh=>gh.2) (fun gh=>gh.1≤st.length∧(∀ b o,Ga b=some o→gh.2 b=some o)) (fun gh=>st.length - gh.1) ((0,Ga)) sB ?_ ?_
 ·exact ⟨eG _,fun _ _ h=>h⟩
 clear H;rintro ⟨k,g1⟩ a w hI H;dsimp only at hI H;obtain ⟨hk,JU⟩:=hI;dsimp only [lca,aQ] at H;refine cK 4 H ?_ ?_ <;> clear H
 ·intro iT
  have hk2:k < st.length:=by omega
  obtain ⟨xb,xo,pA,pc,rfl,hrow,-,-⟩:=Bv (hst.mono JU) hk2;have hnew:=aqW f1 hk2;refine aj 5 ?_;intro a H;refine aT jk (cs:=_) H wn rfl rfl (fun j v hj=>H.hp.aC (hrow j v hj)) rfl ?_;clear H;intro a H;refine dx jk H wn rfl ?_;clear H;intro b5 a w hb5 H;refine bq jk 0 (vs:=[_,_,_,_,_,_]) _ H wn rfl rfl rfl rfl rfl rfl rfl rfl ?_;clear H;intro w H;dsimp only [List.set,setRow] at H;refine aI ?_;refine dW ?_;refine dI hmx [[],[0],[0,1],[0,1,2],[],[4],[],[6],(ra 0 8)] [8] (by kernel_rfl) [_,_,_,.map (some b10),_,vi st[k].id,_,vi st[k].kind] H (aF (Z0 rfl (Rm rfl)) (Z1 0 25 rfl (Rk rfl)) (Z1 1 26 rfl (Rf amr rfl)) (Z1 2 27 rfl (Ro auU 1 rfl)) (aF (Z0 rfl (Rf BX rfl)) (Z1 4 29 rfl (Ro bC 0 rfl)) (Z0 rfl (Rf Ul rfl)) (Z1 6 31 rfl (Ro bC 0 rfl)) (aW (bS rfl) cZ))) ?_
  clear H;intro a w G wU H hv;have H:=H.aV (hv 3 28 rfl rfl) rfl;have H:=H.aV (hv 5 30 rfl rfl) rfl;have H:=H.aV (hv 7 32 rfl rfl) rfl;clear hv;refine NC (i:=6) FQ lZ H wn rfl rfl rfl rfl hnew ?_;clear H;intro w H;dsimp only [List.set,List.append,lca,aQ] at H;rw [← aqX hk2] at H;refine aI ⟨rfl,?_⟩;refine dW ?_;refine dG 3 H ?_;clear H;intro a H;refine aI ?_;refine bR ((k+1,G)) (by exact (H.bY (Pl:=[_,_,_,_,_,_,_]) (bT:=[_,_,_,_,_,_]) [1,2,3,4,5,6] (by decide) rfl).sub ⟨rfl,rfl,rfl,rfl,rfl,aY⟩) ?_ ?_
  ·(try dsimp only);exact ⟨by omega,fun b o h=>wU b o (JU b o h)⟩
  first|omega|(dsimp only;omega)
 intro iT
 obtain rfl:k=st.length:=by omega
 intro a H;rw [wL] at H;have awF:=aD JU hc8;refine dG 10 H ?_;clear H;intro a H;refine dD (ι:=Nat × GH) (Tc:=[(1,_),(3,_),(36,_),(37,_)]) (Lc:=[(_,_),(_,_),(_,_),(_,_),(_,_)]) (fun gh=>[(38,vi gh.1)]) (fun gh=>[(b11,eP (fI ((li.map dz.id).take gh.1)))]) (fun gh=>gh.2) (fun gh=>gh.1≤li.length∧(∀ b o,g1 b=some o→gh.2 b=some o)) (fun gh=>li.length - gh.1) ((0,g1)) (by exact (H.bY (Pl:=[_,_,_,_,_,_]) (bT:=[_,_,_,_,_,_]) [0,1,2,3,5,4] (by decide) rfl).sub ⟨rfl,rfl,rfl,rfl,rfl,aY⟩) ?_ ?_
 ·exact ⟨eG _,fun _ _ h=>h⟩
 clear H;rintro ⟨k,g2⟩ a w hI H;dsimp only at hI H;obtain ⟨hk,Qk⟩:=hI;dsimp only [lca,aQ] at H;refine cK 4 H ?_ ?_ <;> clear H
 ·intro p39
  have hk2:k < li.length:=by omega
  obtain ⟨xb,xo,B,d,rfl,hrow,-⟩:=Ir ((wW.mono JU).mono Qk) hk2
  have hk3:k < (li.map dz.id).length:=by simpa using hk2
  have hnew:=adV f2 hk3
  have zU:(li.map dz.id)[k]=li[k].id:=by simp
  rw [zU] at hnew;refine aj 5 ?_;intro a H;refine aT og (cs:=_) H wn rfl rfl (fun j v hj=>H.hp.aC (hrow j v hj)) rfl ?_;clear H;intro a H;refine dx og H wn rfl ?_;clear H;intro b7 a w qD H;refine bq og 0 (vs:=[_,_]) _ H wn rfl rfl rfl rfl rfl rfl rfl rfl ?_;clear H;intro w H;dsimp only [List.set,setRow] at H;refine aI ?_;refine dW ?_;refine dI hmx [[],[0],[0,1],[0,1,2],[],[4],(ra 0 6)] [6] (by kernel_rfl) [_,_,_,.map (some b11),_,vi li[k].id] H (aF (Z0 rfl (Rm rfl)) (Z1 0 42 rfl (Rk rfl)) (Z1 1 43 rfl (Rf ams rfl)) (Z1 2 44 rfl (Ro FM 1 rfl)) (aW (Z0 rfl (Rf Dx rfl)) (aW (Z1 4 46 rfl (Ro bC 0 rfl)) (aW (bS rfl) cZ)))) ?_
  clear H;intro a w G nV H hv;have H:=H.aV (hv 3 45 rfl rfl) rfl;have H:=H.aV (hv 5 47 rfl rfl) rfl;clear hv;refine NC (i:=6) xG lZ H wn rfl rfl rfl rfl hnew ?_;clear H;intro w H;dsimp only [List.set,List.append,lca,aQ] at H;rw [← zU,← adW hk3] at H;refine aI ⟨rfl,?_⟩;refine dW ?_;refine dG 3 H ?_;clear H;intro a H;refine aI ?_;refine bR ((k+1,G)) (by exact (H.bY (Pl:=[_,_,_,_,_,_,_]) (bT:=[_,_,_,_,_,_]) [1,2,3,4,5,6] (by decide) rfl).sub ⟨rfl,rfl,rfl,rfl,rfl,aY⟩) ?_ ?_
  ·(try dsimp only);exact ⟨by omega,fun b o h=>nV b o (Qk b o h)⟩
  first|omega|(dsimp only;omega)
 intro p39
 obtain rfl:k=li.length:=by omega
 intro a H;rw [iL (by simp)] at H;have awE:=aD Qk (aD JU hc6);refine dG 9 H ?_;clear H;intro a H;refine dD (ι:=Nat × GH) (Tc:=[(3,_),(50,_),(51,_)]) (Lc:=[(_,_),(_,_),(_,_),(_,_),(_,_)]) (fun gh=>[(52,vi gh.1)]) (fun gh=>[(b12,eP (fI ((rv.map bD.id).take gh.1)))]) (fun gh=>gh.2) (fun gh=>gh.1≤rv.length∧(∀ b o,g2 b=some o→gh.2 b=some o)) (fun gh=>rv.length - gh.1) ((0,g2)) (by exact (H.bY (Pl:=[_,_,_,_,_,_]) (bT:=[_,_,_,_,_,_]) [0,1,2,4,5,3] (by decide) rfl).sub ⟨rfl,rfl,rfl,rfl,aY⟩) ?_ ?_
 ·exact ⟨eG _,fun _ _ h=>h⟩
 clear H;rintro ⟨k,g3⟩ a w hI H;dsimp only at hI H;obtain ⟨hk,acr⟩:=hI;dsimp only [lca,aQ] at H;refine cK 4 H ?_ ?_ <;> clear H
 ·intro p53
  have hk2:k < rv.length:=by omega
  obtain ⟨xb,xo,rfl,hrow⟩:=FH (((jO.mono JU).mono Qk).mono acr) hk2
  have hk3:k < (rv.map bD.id).length:=by simpa using hk2
  have hnew:=adV f3 hk3
  have zU:(rv.map bD.id)[k]=rv[k].id:=by simp
  rw [zU] at hnew;refine aj 5 ?_;intro a H;refine aT mF (cs:=_) H wn rfl rfl (fun j v hj=>H.hp.aC (hrow j v hj)) rfl ?_;clear H;intro a H;refine dx mF H wn rfl ?_;clear H;intro b9 a w qE H;refine bq mF 0 (vs:=[_,_,_]) _ H wn rfl rfl rfl rfl rfl rfl rfl rfl ?_;clear H;intro w H;dsimp only [List.set,setRow] at H;refine aI ?_;refine dW ?_;refine dI hmx [[],[0],[0,1],[0,1,2],[],[4],(ra 0 6)] [6] (by kernel_rfl) [_,_,_,.map (some b12),_,vi rv[k].id] H (aF (Z0 rfl (Rm rfl)) (Z1 0 56 rfl (Rk rfl)) (Z1 1 57 rfl (Rf Me rfl)) (Z1 2 58 rfl (Ro FM 1 rfl)) (aW (Z0 rfl (Rf Ur rfl)) (aW (Z1 4 60 rfl (Ro bC 0 rfl)) (aW (bS rfl) cZ)))) ?_
  clear H;intro a w G Hq H hv;have H:=H.aV (hv 3 59 rfl rfl) rfl;have H:=H.aV (hv 5 61 rfl rfl) rfl;clear hv;refine NC (i:=6) xG lZ H wn rfl rfl rfl rfl hnew ?_;clear H;intro w H;dsimp only [List.set,List.append,lca,aQ] at H;rw [← zU,← adW hk3] at H;refine aI ⟨rfl,?_⟩;refine dW ?_;refine dG 3 H ?_;clear H;intro a H;refine aI ?_;refine bR ((k+1,G)) (by exact (H.bY (Pl:=[_,_,_,_,_,_,_]) (bT:=[_,_,_,_,_,_]) [1,2,3,4,5,6] (by decide) rfl).sub ⟨rfl,rfl,rfl,rfl,aY⟩) ?_ ?_
  ·(try dsimp only);exact ⟨by omega,fun b o h=>Hq b o (acr b o h)⟩
  first|omega|(dsimp only;omega)
 intro p53
 obtain rfl:k=rv.length:=by omega
 intro a H;rw [iL (by simp)] at H;refine dG 5 H ?_;clear H;intro a H;refine dw ?_;have H:=H.bY (Pl:=[_,_,_,_,_,_]) (bT:=[_,_,_,_,_,_]) [3,4,5,0,2,1] (by decide) rfl;obtain ⟨Gs,hms,hs,H⟩:=H.dS;obtain ⟨Gl,VE,hl,H⟩:=H.dS;obtain ⟨Gr,hmr,hr,H⟩:=H.dS;refine lv H results45 rfl ?_;exact H.hp.dO ⟨b16,b10,b11,b12,b13,b14,rfl,rfl,⟨hmr _ _ (VE _ _ hs),hmr _ _ hl,hr⟩⟩
end
end Go.Proofs.YthmanofbmnfemaaGreat
