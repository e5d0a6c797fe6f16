/-
  What the claim stands on, part 5: Dn Ms16 Fd16 Par It Div Rc Nrm Pas L14 L14b L14c L14d L14e Sl Kt K16 Rws Itm Its Rvs Chd Sm16 Al16 Brd.
-/
import Derived.Test.YteopmoocmoigcaaGreatWqd
import Derived.ProofKit
import Derived.Deep.Slices
import Derived.Laws.StructEq
namespace Go.Proofs.YteopmoocmoigcaaGreat
open Go.Proofs.Tryz
section
open Go.RowKit
section
variable {N:Nat} {D:List Deferred} {w0:World} {F:Nat→Prop} {G0 G G1 G2:GH} {L L1 L2:OL} {T Xs:List (Nat × aj)}
variable {r:Option Nat} {P:Program} {Q:Exit→Act→World→Prop} {l:List Oper} {a a':Act} {w w':World}
theorem Zx {id:Nat} (hm:P.follows .mixedOrders=true) (bG:List (List Nat)) (B:List Nat) (hk:xM l bG=true) (hB:yD l bG B=true) (m1 m2:Nat) (aeT:B.contains m1=false) (Uw:B.contains m2=false) (h12:(bG.getD m2 []).contains m1=true) (hne:Nat.beq m1 m2=false) (OI OJ:Obj) (pr:Nat→Nat→aj→GH→Prop)
  (hp1:∀ b b' i v G,Nat.beq i m1=false→(bG.getD i []).contains m1=false→pr b i v G→pr b' i v G)
  (H:St N D w0 F G0 G L T a w)
  (hstep:allI (fun i o=>∀ b L' S a w G1,(∀ x,x∈L→x∈L')→B.contains i=false→Nat.beq i m1=false→Nat.beq i m2=false→S i=false→(∀ j∈bG.getD i [],S j=true)→(∀ k o,G k=some o→G1 k=some o)→St N D w0 F G0 G1 L' T a w→(∀ i d,S i=true→dR l i=some d→∃ v,a.tmps[d]?=some v∧pr b i v G1) →
   WL r P l.toArray (fun e a' w'=>e=.normal∧DX N D w0 F G0 G L' T l (pr b) (dG S i) a' w') [o] a w) 0 l)
  (NQ:∀ o S a w G1,l[m1]?=some o→S m1=false→(∀ j∈bG.getD m1 [],S j=true)→(∀ k o,G k=some o→G1 k=some o)→St N D w0 F G0 G1 L T a w→(∀ b i d,i≠m1→S i=true→dR l i=some d→∃ v,a.tmps[d]?=some v∧pr b i v G1) →
   WL r P l.toArray (fun e a' w'=>e=.normal∧∃ b,DX N D w0 F G0 G ((b,OI) :: L) T l (pr b) (dG S m1) a' w') [o] a w)
  (NR:∀ o b S a w G1,l[m2]?=some o→S m2=false→(∀ j∈bG.getD m2 [],S j=true)→(∀ k o,G k=some o→G1 k=some o)→St N D w0 F G0 G1 ((b,OI) :: L) T a w→(∀ i d,S i=true→dR l i=some d→∃ v,a.tmps[d]?=some v∧pr b i v G1) →
   WL r P l.toArray (fun e a' w'=>e=.normal∧DX N D w0 F G0 G ((b,OJ) :: L) T l (pr b) (dG S m2) a' w') [o] a w)
  (hend:∀ b a w G1,(∀ k o,G k=some o→G1 k=some o)→St N D w0 F G0 G1 ((b,OJ) :: L) T a w→(∀ i d,B.contains i=false→dR l i=some d→∃ v,a.tmps[d]?=some v∧pr b i v G1)→WL r P l.toArray (fun e a w=>e=.normal∧Q .normal a w) (pJ l B) a w)
  (Gq:Nat.blt m2 l.length=true):WP r P (.region id l.toArray true) Q a w:=by
 have hne':m1≠m2:=fun e=>by subst e;rw [Nat.beq_refl] at hne;cases hne
 refine RG hm bG B hk hB (fun S a w=>(S m2=true→S m1=true)∧∃ b L',L'=(bif S m2 then (b,OJ) :: L else bif S m1 then (b,OI) :: L else L)∧DX N D w0 F G0 G L' T l (pr b) S a w)
  ⟨fun h=>h,0,L,rfl,G,fun _ _ h=>h,H.move H.hp.drew,fun _ _ h=>absurd (show false=true from h) (by decide)⟩ ?_ ?_
 ·rintro i o S a w ho hb bH kZ hdesc ⟨Gw,b,L',hL,G1,hG,HS,hv⟩
  have hsub:∀ x,x∈L→x∈L':=fun x hx=>by
   rw [hL]
   cases S m2 with
   | true=>exact jU _ hx
   | false=>cases S m1 with
    | true=>exact jU _ hx
    | false=>exact hx
  have hno:∀ j,j < l.length→S j=true→(bG.getD j []).contains i=false:=fun j hjl hj=>by
   cases hc:(bG.getD j []).contains i with
   | false=>rfl
   | true =>
    have:=hdesc j hjl (by simpa using hc)
    rw [this] at hj;cases hj
  by_cases h1:i=m1
  ·subst h1
   have hs2:S m2=false:=by
    cases hs:S m2 with
    | false=>rfl
    | true=>rw [Gw hs] at bH;cases bH
   rw [hs2,bH] at hL
   subst hL
   have h:=NQ o S a w G1 ho bH kZ hG HS fun b' j d hj hSj hd=>by
    obtain ⟨v,hv1,hv2⟩:=hv j d hSj hd
    exact ⟨v,hv1,hp1 b b' j v _ (uX hj) (hno j (vg hd) hSj) hv2⟩
   refine pV (fun e a' w' ⟨he,b',hD⟩=>⟨he,fun _=>au rfl,b',_,?_,hD⟩) h
   rw [show dG S i i=true from au rfl,show dG S i m2=S m2 from ah (fun e=>hne' e.symm),hs2]
   rfl
  ·by_cases h2:i=m2
   ·subst h2
    have hs1:S m1=true:=kZ m1 (by simpa using h12)
    rw [bH,hs1] at hL
    subst hL
    have h:=NR o b S a w G1 ho bH kZ hG HS hv
    refine pV (fun e a' w' ⟨he,hD⟩=>⟨he,fun _=>by rw [show dG S i m1=S m1 from ah hne'];exact hs1,b,_,?_,hD⟩) h
    rw [show dG S i i=true from au rfl]
    rfl
   ·have h:=DY hstep i o ho
    rw [kK] at h
    have e1:dG S i m1=S m1:=ah (fun e=>h1 e.symm)
    have e2:dG S i m2=S m2:=ah (fun e=>h2 e.symm)
    refine pV (fun e a' w' ⟨he,hD⟩=>⟨he,by rw [e1,e2];exact Gw,b,L',?_,hD⟩) (h b L' S a w G1 hsub hb (uX h1) (uX h2) bH kZ hG HS hv)
    rw [e1,e2];exact hL
 ·rintro S a w hall hnB ⟨Gw,b,L',hL,G1,hG,HS,hv⟩
  have hs2:S m2=true:=hall m2 (Eq.mp Nat.blt_eq Gq) Uw
  rw [hs2] at hL
  subst hL
  exact hend b a w G1 hG HS fun j d hb hd=>hv j d (hall j (vg hd) hb) hd
end
end
section
open Go.RowKit
theorem SF:∀ args w,(callFunc 38 args).run prog w=.ok (.enter 38 args) w:=enters func38 rfl (by kernel_rfl)
theorem Vj {A:List bJ} {p:bJ→Bool}:match A.findIdx? p with|some k=>∃ hk:k < A.length,A.find? p=some A[k]|none=>A.find? p=none:=by
 cases h:A.findIdx? p with
 | none =>
  dsimp only;rw [List.find?_eq_none];intro x hx;have:=List.findIdx?_eq_none_iff.1 h x hx
  simp [this]
 | some k =>
  obtain ⟨hk,h1,h2⟩:=List.findIdx?_eq_some_iff_getElem.1 h;refine ⟨hk,?_⟩;rw [List.find?_eq_some_iff_getElem];exact ⟨h1,k,hk,rfl,fun j hj=>by simpa using h2 j hj⟩
theorem Ot {A:List bJ} {c i:Int} (h:¬ 0≤uG A c i):mo A c i=none:=by
 have:=Vj (A:=A) (p:=fun a=>decide (a.code=c∧a.id=i))
 unfold uG at h
 cases hk:A.findIdx? (fun a=>decide (a.code=c∧a.id=i)) with
 | none=>rw [hk] at this;exact this
 | some k=>rw [hk] at h;exact absurd (Int.natCast_nonneg k) h
theorem Vh {A:List bJ} {c i:Int} (h:0≤uG A c i):∃ (j:Nat) (hj:j < A.length),uG A c i=j∧mo A c i=some A[j]:=by
 have:=Vj (A:=A) (p:=fun a=>decide (a.code=c∧a.id=i))
 unfold uG at h ⊢
 cases hk:A.findIdx? (fun a=>decide (a.code=c∧a.id=i)) with
 | none=>rw [hk] at h;exact absurd h (by decide)
 | some k=>rw [hk] at this;obtain ⟨hj,e⟩:=this;exact ⟨k,hj,rfl,e⟩
theorem Oq {A:List bJ} (hnd:A.Nodup) {c:Int} {k:Nat} (hk:k < A.length) (hc:A[k].code=c):(!decide (uG A c A[k].id=(k:Int)))=!nU A c A[k]:=by
 have hmem:0≤uG A c A[k].id:=by
  unfold uG
  cases hi:A.findIdx? (fun a=>decide (a.code=c∧a.id=A[k].id)) with
  | none =>
   have:=List.findIdx?_eq_none_iff.1 hi A[k] (iQ hk)
   simp [hc] at this
  | some j=>exact Int.natCast_nonneg j
 obtain ⟨j,hj,e1,e2⟩:=Vh hmem
 unfold nU
 rw [e1,e2]
 congr 1
 rw [nE,decide_eq_true_iff,decide_eq_true_iff]
 constructor
 ·intro e
  obtain rfl:j=k:=by omega
  exact ⟨hc,rfl⟩
 rintro ⟨-,e⟩;have:=(List.getElem_inj hnd).1 (Option.some.inj e)
 omega
set_option maxHeartbeats 4000000 in
theorem VI (G:GH) (w0:World) (hG:Hold G w0) (A:List bJ) (v:aj) (code:Int) (hv:av G (.sl 5 (A.map bJ.dat)) v) (hl:A.length≤1073741824) (hnd:A.Nodup) (Ba:∀ a∈A,0≤a.at_∧a.at_≤4294967296) (hc:0≤code∧code≤100) :
  Calls prog 15 #[v,vi code] w0 (bC w0 G fun u G'=>av G' (.sl 6 ((qx A code).map iP.dat)) u):=by
 obtain ⟨vA,n,cc,rfl⟩:=hv.form;have hn:=hv.len;rw [bT] at hn;subst hn;have hml:maxLen=9223372036854775807:=rfl;refine eN [(0,_),(1,_)] func15 rfl ntmps15 rfl rfl hG ?_;intro a H;refine kP H (SR fun _ K1=>ak K1 rfl (SR fun _ K2=>ak K2 rfl (SQ fun _ K3=>SR fun _ K4=>ak K4 rfl (SB ?_))));clear H K1 K2 K4;intro a H;skip;refine eZ (ι:=Nat × aj × OL × GH) (Tc:=[(0,_),(1,_)]) (Lc:=[]) (fun gh=>[(5,gh.2.1),(6,vi gh.1)]) (fun gh=>[]++gh.2.2.1) (fun gh=>gh.2.2.2) (fun gh=>gh.1≤A.length∧dD 55 6 gh.2.1 (qy A code gh.1).length (EP (qy A code gh.1)) gh.2.2.1∧(∀ b o,G b=some o→gh.2.2.2 b=some o)) (fun gh=>A.length - gh.1) ((0,.slice none 0 0,[],G)) (by exact (H).sub ⟨rfl,rfl,rfl,rfl,aB⟩) ?_ ?_
 ·exact ⟨iK _,dD.nil,fun _ _ h=>h⟩
 clear H;intro gh a w hI H;obtain ⟨k,v5,Lo,g⟩:=gh;dsimp only at hI H;obtain ⟨hk,hrw,hgm⟩:=hI;have hsl:=Px A code k hk;obtain ⟨v5A,v5c,rfl,-,-⟩:=hrw.shape;dsimp only [lca,aZ] at H;refine kP H (SQ fun _ K5=>SR fun _ K6=>Rm rfl (Rm rfl (Rl jY rfl (Rc rfl (Kz K6 (Cd rfl ?_ ?_)))))) <;> clear H K6
 ·intro h12 a H
  try have oJ:=dT h12
  have hk2:k < A.length:=by omega
  obtain ⟨b,o,rfl,hrow⟩:=Cj (hv.mono hgm) hk2;obtain ⟨ha0,ha1⟩:=Ba A[k] (iQ hk2);refine kP H (Kc K5 (SQ fun _ K7=>SB (SQ fun _ K8=>SR fun _ K9=>Rm rfl (Rm rfl (Ri jY iV rfl rfl (Rf FV rfl (Rg aG rfl (hrow 0 _ rfl) (Rm rfl (Rc rfl (Rm rfl (Sp 22 rfl ?_ ?_))))))))))) <;> clear H K5
  ·intro h22 a H
   try have gV:=dT h22
   refine kH H (aX h22 rfl (aX h22 rfl (aP h22 rfl (aP h22 rfl (Pt h22 rfl (Kz K9 (Ct rfl rfl ?_)))))));clear H K9;intro a H;refine dW ?_;refine K7 _ _ ?_;clear K7;refine kP H (SC (Rm rfl (Rd rfl (Ra rfl ?_))));clear H;intro a H;refine aH ?_;refine dw ((k+1,_,Lo,g)) (by exact (H).sub ⟨rfl,rfl,rfl,rfl,aB⟩) ?_ ?_
   ·(try dsimp only);exact ⟨by omega,by rw [Kg hk2 (by first|(simp [nU,gV];done)|(have:=Oq hnd hk2 (lY.1 gV);simp_all))];exact hrw,hgm⟩
   first|omega|(dsimp only;omega)
  intro h22 a H
  try have gV:=dF h22
  refine kH H (YM h22 rfl (YM h22 rfl (YM h22 rfl (YM h22 rfl (YI jY iV h22 rfl rfl (YF AJ h22 rfl (YR aG h22 rfl (hrow 1 _ rfl) ?_)))))));clear H;intro a H;refine s_call SF H (wg H rfl rfl h22) rfl (TM _ _ H.ro A _ code A[k].id (hv.mono hgm) (by omega)) rfl ?_;clear H;rintro v30 _ a w ⟨rfl,rfl⟩ - H;refine kH H (YM h22 rfl (YC h22 rfl (Pf h22 rfl (Kz K9 (Cd rfl ?_ ?_))))) <;> clear H K9
  ·intro MR a H
   try have p33:=dT MR
   refine dW ?_;refine K7 _ _ ?_;clear K7;refine kP H (SC (Rm rfl (Rd rfl (Ra rfl ?_))));clear H;intro a H;refine aH ?_;refine dw ((k+1,_,Lo,g)) (by exact (H).sub ⟨rfl,rfl,rfl,rfl,aB⟩) ?_ ?_
   ·(try dsimp only);exact ⟨by omega,by rw [Kg hk2 (by first|(simp [nU,gV];done)|(have:=Oq hnd hk2 (lY.1 gV);simp_all))];exact hrw,hgm⟩
   first|omega|(dsimp only;omega)
  intro MR a H
  try have p33:=dF MR
  have hst:nU A code A[k]=true:=by
   have h1:A[k].code=code:=by first|exact lY.1 gV|simp_all
   have h2:=Oq hnd hk2 h1
   have h3:uG A code A[k].id=(k:Int):=by simp_all
   rw [jT h3] at h2
   simpa using h2
  refine fO ?_;refine K8 _ _ ?_;clear K8;refine bq (fun _ aS=>?_)
  have qP:∀ (dK bS:Nat) (v:aj) (G G':GH),(∀ k o,G k=some o→G' k=some o)→(fun (dK bS:Nat) (v:aj) (G:GH)=>match bS with|0=>v=.slice (some ⟨b,o,none⟩) A.length cc|1=>v=vi k|2=>v=(aI b (o+k*5))|3=>v=(aI b (o+k*5+1))|4=>v=vi A[k].id|5=>v=.slice (some ⟨b,o,none⟩) A.length cc|6=>v=vi k|7=>v=(aI b (o+k*5))|8=>v=(aI b (o+k*5+2))|9=>v=.string A[k].name|10=>v=.slice (some ⟨b,o,none⟩) A.length cc|11=>v=vi k|12=>v=(aI b (o+k*5))|13=>v=(aI b (o+k*5+3))|14=>v=.agg #[vi A[k].flow,vi A[k].at_]|15=>v=.agg #[vi A[k].id,.string A[k].name,vi A[k].flow,vi A[k].at_,vi 0,vi 0]|16=>v=(aI dK 0)|_=>True) dK bS v G→(fun (dK bS:Nat) (v:aj) (G:GH)=>match bS with|0=>v=.slice (some ⟨b,o,none⟩) A.length cc|1=>v=vi k|2=>v=(aI b (o+k*5))|3=>v=(aI b (o+k*5+1))|4=>v=vi A[k].id|5=>v=.slice (some ⟨b,o,none⟩) A.length cc|6=>v=vi k|7=>v=(aI b (o+k*5))|8=>v=(aI b (o+k*5+2))|9=>v=.string A[k].name|10=>v=.slice (some ⟨b,o,none⟩) A.length cc|11=>v=vi k|12=>v=(aI b (o+k*5))|13=>v=(aI b (o+k*5+3))|14=>v=.agg #[vi A[k].flow,vi A[k].at_]|15=>v=.agg #[vi A[k].id,.string A[k].name,vi A[k].flow,vi A[k].at_,vi 0,vi 0]|16=>v=(aI dK 0)|_=>True) dK bS v G':=by
   intro dK bS v G G' hm h
   match bS,h with
   | 0,h=>exact h
   | 1,h=>exact h
   | 2,h=>exact h
   | 3,h=>exact h
   | 4,h=>exact h
   | 5,h=>exact h
   | 6,h=>exact h
   | 7,h=>exact h
   | 8,h=>exact h
   | 9,h=>exact h
   | 10,h=>exact h
   | 11,h=>exact h
   | 12,h=>exact h
   | 13,h=>exact h
   | 14,h=>exact h
   | 15,h=>exact h
   | 16,h=>exact h
   | 17,h=>exact trivial
   | _+18,h=>exact trivial
  refine Zx (hmx) [[],[],[0,1],[0,1,2],(ra 0 4),[],[],[5,6],[5,6,7],(ra 5 4),[],[],[10,11],[10,11,12],(ra 10 4),(ra 0 15),[],(ra 0 17)] [] (by kernel_rfl) (by kernel_rfl) 16 17 (by decide) (by decide) (by decide) (by decide) (.cells #[vi 0,.string ⟨#[]⟩,vi 0,vi 0,vi 0,vi 0] 55 (0,0)) (.cells #[vi A[k].id,.string A[k].name,vi A[k].flow,vi A[k].at_,vi 0,vi 0] 55 (0,0)) (fun (dK bS:Nat) (v:aj) (G:GH)=>match bS with|0=>v=.slice (some ⟨b,o,none⟩) A.length cc|1=>v=vi k|2=>v=(aI b (o+k*5))|3=>v=(aI b (o+k*5+1))|4=>v=vi A[k].id|5=>v=.slice (some ⟨b,o,none⟩) A.length cc|6=>v=vi k|7=>v=(aI b (o+k*5))|8=>v=(aI b (o+k*5+2))|9=>v=.string A[k].name|10=>v=.slice (some ⟨b,o,none⟩) A.length cc|11=>v=vi k|12=>v=(aI b (o+k*5))|13=>v=(aI b (o+k*5+3))|14=>v=.agg #[vi A[k].flow,vi A[k].at_]|15=>v=.agg #[vi A[k].id,.string A[k].name,vi A[k].flow,vi A[k].at_,vi 0,vi 0]|16=>v=(aI dK 0)|_=>True) (fun b b' i v G hi hc h=>by match i,hi,hc,h with|0,_,_,h=>exact h|1,_,_,h=>exact h|2,_,_,h=>exact h|3,_,_,h=>exact h|4,_,_,h=>exact h|5,_,_,h=>exact h|6,_,_,h=>exact h|7,_,_,h=>exact h|8,_,_,h=>exact h|9,_,_,h=>exact h|10,_,_,h=>exact h|11,_,_,h=>exact h|12,_,_,h=>exact h|13,_,_,h=>exact h|14,_,_,h=>exact h|15,_,_,h=>exact h|16,hi,_,_=>exact absurd hi (by decide)|17,_,hc,_=>exact absurd hc (by decide)|_+18,_,_,_=>exact trivial) H ?_ ?_ ?_ ?_ (by kernel_rfl)
  ·clear H;refine aD ?_ ?_ ?_ ?_ (aD ?_ ?_ ?_ ?_ (aD ?_ ?_ ?_ ?_ (aD ?_ ?_ ?_ ?_ (aW ?_ (aW ?_ bY)))))
   ·intro dK lV bQ a w G1 lJ _ _ _ bH hc hG HT hv;have H:=HT;clear bH;have Hb:=H.full;have H:=Hb;clear hc;refine kH H (Rm rfl ?_);clear H;intro a H;refine aH ⟨rfl,?_⟩;exact jo (by kernel_rfl) (qP dK) rfl rfl HT Hb hG hv (fun _ _ h=>h) (rfl) H
   ·intro dK lV bQ a w G1 lJ _ _ _ bH hc hG HT hv;have H:=HT;clear bH;have Hb:=H.full;have H:=Hb;clear hc;refine kH H (Rm rfl ?_);clear H;intro a H;refine aH ⟨rfl,?_⟩;exact jo (by kernel_rfl) (qP dK) rfl rfl HT Hb hG hv (fun _ _ h=>h) (rfl) H
   ·intro dK lV bQ a w G1 lJ _ _ _ bH hc hG HT hv;have H:=HT;clear bH;have H:=H.aQ (hv 0 34 (hc 0 (by decide)) rfl) rfl;have H:=H.aQ (hv 1 35 (hc 1 (by decide)) rfl) rfl;have Hb:=H.full;have H:=Hb;clear hc;refine kH H (Ri jY iV rfl rfl ?_);clear H;intro a H;refine aH ⟨rfl,?_⟩;exact jo (by kernel_rfl) (qP dK) rfl rfl HT Hb hG hv (fun _ _ h=>h) (rfl) H
   ·intro dK lV bQ a w G1 lJ _ _ _ bH hc hG HT hv;have H:=HT;clear bH;have H:=H.aQ (hv 2 36 (hc 2 (by decide)) rfl) rfl;have Hb:=H.full;have H:=Hb;clear hc;refine kH H (Rf AJ rfl ?_);clear H;intro a H;refine aH ⟨rfl,?_⟩;exact jo (by kernel_rfl) (qP dK) rfl rfl HT Hb hG hv (fun _ _ h=>h) (rfl) H
   ·intro dK lV bQ a w G1 lJ _ _ _ bH hc hG HT hv;have H:=HT;clear bH;have H:=H.aQ (hv 3 37 (hc 3 (by decide)) rfl) rfl;have Hb:=H.full;have H:=Hb;clear hc;refine kH H (Rg aG rfl (aK hG (hrow 1 _ rfl)) ?_);clear H;intro a H;refine aH ⟨rfl,?_⟩;exact jo (by kernel_rfl) (qP dK) rfl rfl HT Hb hG hv (fun _ _ h=>h) (rfl) H
   ·intro dK lV bQ a w G1 lJ _ _ _ bH hc hG HT hv;have H:=HT;clear bH;have Hb:=H.full;have H:=Hb;clear hc;refine kH H (Rm rfl ?_);clear H;intro a H;refine aH ⟨rfl,?_⟩;exact jo (by kernel_rfl) (qP dK) rfl rfl HT Hb hG hv (fun _ _ h=>h) (rfl) H
   ·intro dK lV bQ a w G1 lJ _ _ _ bH hc hG HT hv;have H:=HT;clear bH;have Hb:=H.full;have H:=Hb;clear hc;refine kH H (Rm rfl ?_);clear H;intro a H;refine aH ⟨rfl,?_⟩;exact jo (by kernel_rfl) (qP dK) rfl rfl HT Hb hG hv (fun _ _ h=>h) (rfl) H
   ·intro dK lV bQ a w G1 lJ _ _ _ bH hc hG HT hv;have H:=HT;clear bH;have H:=H.aQ (hv 5 39 (hc 5 (by decide)) rfl) rfl;have H:=H.aQ (hv 6 40 (hc 6 (by decide)) rfl) rfl;have Hb:=H.full;have H:=Hb;clear hc;refine kH H (Ri jY iV rfl rfl ?_);clear H;intro a H;refine aH ⟨rfl,?_⟩;exact jo (by kernel_rfl) (qP dK) rfl rfl HT Hb hG hv (fun _ _ h=>h) (rfl) H
   ·intro dK lV bQ a w G1 lJ _ _ _ bH hc hG HT hv;have H:=HT;clear bH;have H:=H.aQ (hv 7 41 (hc 7 (by decide)) rfl) rfl;have Hb:=H.full;have H:=Hb;clear hc;refine kH H (Rf TF rfl ?_);clear H;intro a H;refine aH ⟨rfl,?_⟩;exact jo (by kernel_rfl) (qP dK) rfl rfl HT Hb hG hv (fun _ _ h=>h) (rfl) H
   ·intro dK lV bQ a w G1 lJ _ _ _ bH hc hG HT hv;have H:=HT;clear bH;have H:=H.aQ (hv 8 42 (hc 8 (by decide)) rfl) rfl;have Hb:=H.full;have H:=Hb;clear hc;refine kH H (Rg fZ rfl (aK hG (hrow 2 _ rfl)) ?_);clear H;intro a H;refine aH ⟨rfl,?_⟩;exact jo (by kernel_rfl) (qP dK) rfl rfl HT Hb hG hv (fun _ _ h=>h) (rfl) H
   ·intro dK lV bQ a w G1 lJ _ _ _ bH hc hG HT hv;have H:=HT;clear bH;have Hb:=H.full;have H:=Hb;clear hc;refine kH H (Rm rfl ?_);clear H;intro a H;refine aH ⟨rfl,?_⟩;exact jo (by kernel_rfl) (qP dK) rfl rfl HT Hb hG hv (fun _ _ h=>h) (rfl) H
   ·intro dK lV bQ a w G1 lJ _ _ _ bH hc hG HT hv;have H:=HT;clear bH;have Hb:=H.full;have H:=Hb;clear hc;refine kH H (Rm rfl ?_);clear H;intro a H;refine aH ⟨rfl,?_⟩;exact jo (by kernel_rfl) (qP dK) rfl rfl HT Hb hG hv (fun _ _ h=>h) (rfl) H
   ·intro dK lV bQ a w G1 lJ _ _ _ bH hc hG HT hv;have H:=HT;clear bH;have H:=H.aQ (hv 10 44 (hc 10 (by decide)) rfl) rfl;have H:=H.aQ (hv 11 45 (hc 11 (by decide)) rfl) rfl;have Hb:=H.full;have H:=Hb;clear hc;refine kH H (Ri jY iV rfl rfl ?_);clear H;intro a H;refine aH ⟨rfl,?_⟩;exact jo (by kernel_rfl) (qP dK) rfl rfl HT Hb hG hv (fun _ _ h=>h) (rfl) H
   ·intro dK lV bQ a w G1 lJ _ _ _ bH hc hG HT hv;have H:=HT;clear bH;have H:=H.aQ (hv 12 46 (hc 12 (by decide)) rfl) rfl;have Hb:=H.full;have H:=Hb;clear hc;refine kH H (Rf vB rfl ?_);clear H;intro a H;refine aH ⟨rfl,?_⟩;exact jo (by kernel_rfl) (qP dK) rfl rfl HT Hb hG hv (fun _ _ h=>h) (rfl) H
   ·intro dK lV bQ a w G1 lJ _ _ _ bH hc hG HT hv;have H:=HT;clear bH;have H:=H.aQ (hv 13 47 (hc 13 (by decide)) rfl) rfl;have Hb:=H.full;have H:=Hb;clear hc;refine bD Ai (cs:=[vi A[k].flow,vi A[k].at_]) H wn rfl rfl (fun j v hj=>H.hp.aJ (aK hG (by match j,hj with|0,hj=>exact hrow 3 v hj|1,hj=>exact hrow 4 v hj))) rfl ?_;clear H;intro a H;refine aH ⟨rfl,?_⟩;exact jo (by kernel_rfl) (qP dK) rfl rfl HT Hb hG hv (fun _ _ h=>h) (rfl) H
   ·intro dK lV bQ a w G1 lJ _ _ _ bH hc hG HT hv;have H:=HT;clear bH;have H:=H.aQ (hv 4 38 (hc 4 (by decide)) rfl) rfl;have H:=H.aQ (hv 9 43 (hc 9 (by decide)) rfl) rfl;have H:=H.aQ (hv 14 48 (hc 14 (by decide)) rfl) rfl;have Hb:=H.full;have H:=Hb;clear hc;refine jJ Kh [_,_,_,_,_,_] H wn rfl rfl rfl rfl ?_;clear H;intro a H;refine aH ⟨rfl,?_⟩;exact jo (by kernel_rfl) (qP dK) rfl rfl HT Hb hG hv (fun _ _ h=>h) (rfl) H
   ·intro _ _ _ _ _ _ _ _ hB;exact absurd hB (by decide)
   intro _ _ _ _ _ _ _ _ _ hB;exact absurd hB (by decide)
  ·clear H;intro o_ bQ a w G1 tF _ hc hG HT hv;obtain rfl:_=o_:=Option.some.inj tF;clear tF;have H:=HT;have Hb:=H.full;have H:=Hb;clear hc;refine eU kR H wn rfl ?_;clear H;intro b7 a w CO H;refine aH ⟨rfl,b7,?_⟩;exact LZ (by kernel_rfl) rfl HT Hb hG (fun j e h1 h2 h3=>hv _ j e h1 h2 h3) (rfl) H
  ·clear H;intro o_ dK bQ a w G1 tF _ hc hG HT hv;obtain rfl:_=o_:=Option.some.inj tF;clear tF;have H:=HT;have H:=H.aQ (hv 16 7 (hc 16 (by decide)) rfl) rfl;have H:=H.aQ (hv 15 49 (hc 15 (by decide)) rfl) rfl;have Hb:=H.full;have H:=Hb;clear hc;refine bF kR 0 (vs:=[_,_,_,_,_,_]) _ H wn rfl rfl rfl rfl rfl rfl rfl rfl ?_;clear H;intro w H;dsimp only [List.set,setRow] at H;refine aH ⟨rfl,?_⟩;exact aaH rfl HT hG hv H
  clear H;intro b7 a w G gH H hv;have H:=H.aQ (hv 16 7 rfl rfl) rfl;clear hv;refine aH ⟨rfl,?_⟩;refine aS _ _ ?_;clear aS;refine kP H (SR fun _ bA=>Rf xQ rfl (aR vw aG 0 rfl rfl (Rd rfl (Rf xQ rfl (Rf vw rfl ?_)))));clear H;intro a H;refine bF aG 0 (vs:=[_]) _ H wn rfl rfl rfl rfl rfl rfl rfl rfl ?_;clear H;intro w H;dsimp only [List.set,setRow] at H;refine bA _ _ ?_;clear bA;refine kP H (SR fun _ bK=>Rf xQ rfl ?_);clear H;intro a H;refine bD Ai (cs:=[_,_]) H wn rfl rfl (H.hp.dY 0 rfl rfl) rfl ?_;clear H;intro a H;refine kH H (Rf Ei rfl ?_);clear H;intro a H;refine bF Ai 0 (vs:=[_,_]) _ H wn rfl rfl rfl rfl rfl rfl rfl rfl ?_;clear H;intro w H;dsimp only [List.set,setRow] at H;refine bK _ _ ?_;clear bK;refine qd (ι:=Int × Int × GH) (Tc:=[(0,_),(1,_),(5,_),(6,_),(7,_)]) (Lc:=[]) (fun gh=>[]) (fun gh=>[(b7,.cells #[vi A[k].id,.string A[k].name,vi A[k].flow,vi (A[k].at_+1),vi gh.1,vi gh.2.1] 55 (0,0))]++Lo) (fun gh=>gh.2.2) (fun gh=>(gh.1,gh.2.1)=zk A code A[k]∧(∀ b o,g b=some o→gh.2.2 b=some o)) (by exact (H).sub ⟨rfl,rfl,rfl,rfl,rfl,aB⟩) ?_ ?_
  ·skip;refine kP H (SR fun _ bR=>Rm rfl (Rm rfl (Rd rfl (Rm rfl (Rm rfl (Ri jY iV rfl rfl (Rf AJ rfl (Rg aG rfl (aK gH (hrow 1 _ rfl)) ?_))))))));clear H;intro a H;refine s_call SF H wn rfl (TM _ _ H.ro A _ (code+1) A[k].id ((hv.mono hgm).mono gH) (by omega)) rfl ?_;clear H;rintro v67 _ a w ⟨rfl,rfl⟩ - H;obtain ⟨K,hK⟩:∃ K,K=uG A (code+1) A[k].id:=⟨_,rfl⟩;rw [← hK] at H;obtain ⟨q,hq⟩:∃ q,q=(mo A (code+1) A[k].id).getD Ap:=⟨_,rfl⟩
   have hrow':0≤K→∃ j:Nat,K=j∧j < A.length∧mo A (code+1) A[k].id=some q∧∀ i u,q.cells[i]?=some u→aJ G b (o+j*5+i)=some u:=by
    intro h0;rw [hK] at h0;obtain ⟨j,hj,e1,e2⟩:=Vh h0
    have hqe:q=A[j]:=by rw [hq,e2];rfl
    obtain ⟨b2,o2,e3,hrow2⟩:=Cj ((hv.mono hgm).mono gH) hj
    injection e3 with e3
    injection e3 with e4 e5 _
    subst e4;subst e5;exact ⟨j,by rw [hK,e1],hj,by rw [hqe];exact e2,by rw [hqe];exact hrow2⟩
   refine kH H (ak bR rfl (SQ fun _ bP=>?_));clear H bR;intro a H;have hjj:=hrow'
   by_cases c0:0≤K
   ·skip
    by_cases c1:q.flow=A[k].flow
    ·skip;refine dI hmx [[],[0],[0,1],[0,1,2],[0,1,2],(ra 0 5),(ra 0 6),(ra 0 7),(ra 0 8),[0,1,2],[0,1,2,9],[0,1,2,9,10],(ra 0 12),(ra 0 13),(ra 0 14),(ra 0 15),(ra 0 15),(ra 0 17),(ra 0 18),(ra 0 19),(ra 0 20),(ra 0 15),(ra 0 15++[21]),(ra 0 15++[21,22]),(ra 0 24),(ra 0 25)] [] (by kernel_rfl) [_,_,_,_,_,(aI b (o+K.toNat*5)),_,_,vi q.flow,_,_,vi A[k].flow,_,_,_,_,_,(aI b (o+K.toNat*5)),_,_,vi q.at_,_,_,vi (A[k].at_+1),_,_] H (aD (Z0 rfl (Rm rfl)) (Z1 0 68 rfl (Rc rfl)) (Z1 1 69 rfl (Rm rfl)) (Z1 2 70 rfl (YM (aC c0) rfl)) (aD (Z1 2 70 rfl (YM (aC c0) rfl)) ?_ (Z2 5 73 2 70 rfl (YF vB (aC c0) rfl)) (Z2 6 74 2 70 rfl (YF Cu (aC c0) rfl)) (aD ?_ (Z1 2 70 rfl (YF xQ (aC c0) rfl)) (Z2 9 77 2 70 rfl (YF Cu (aC c0) rfl)) (Z2 10 78 2 70 rfl (YO aG 0 (aC c0) rfl)) (aD (Z3 8 76 11 79 2 70 rfl (YC (aC c0) rfl)) (Z2 2 70 12 80 rfl (Pt (aC c0) rfl)) (Z1 13 81 rfl (Rm rfl)) (Z1 14 82 rfl (YM (aC c1) rfl)) (aD (Z1 14 82 rfl (YM (aC c1) rfl)) ?_ (Z2 17 85 14 82 rfl (YF vB (aC c1) rfl)) (Z2 18 86 14 82 rfl (YF vw (aC c1) rfl)) (aD ?_ (Z1 14 82 rfl (YF xQ (aC c1) rfl)) (Z2 21 89 14 82 rfl (YF vw (aC c1) rfl)) (Z2 22 90 14 82 rfl (YO aG 0 (aC c1) rfl)) (aW (Z3 20 88 23 91 14 82 rfl (YC (aC c1) rfl)) (aW (Z2 14 82 24 92 rfl (Pt (aC c1) rfl)) bY)))))))) ?_
     ·refine qF 3 71 4 72 2 70 rfl rfl fun _ a w G1 hG HT H fin=>?_;obtain ⟨j,e1,hj,e2,wM⟩:=hrow' c0;refine Bu jY iV K.toNat H (wg H rfl rfl (aC c0)) rfl rfl (by omega) (by omega) rfl ?_;clear H;intro a H;exact fin H iJ rfl
     ·refine dz 7 75 2 70 rfl rfl fun _ a w G1 hG HT H fin=>?_;obtain ⟨j,e1,hj,e2,wM⟩:=hrow' c0;exact kH H (YR aG (aC c0) rfl (aK hG (by have:=wM 3 _ rfl;rw [e1];exact this)) fun _ H=>fin H iJ rfl)
     ·refine qF 15 83 16 84 14 82 rfl rfl fun _ a w G1 hG HT H fin=>?_;obtain ⟨j,e1,hj,e2,wM⟩:=hrow' c0;refine Bu jY iV K.toNat H (wg H rfl rfl (aC c1)) rfl rfl (by omega) (by omega) rfl ?_;clear H;intro a H;exact fin H iJ rfl
     ·refine dz 19 87 14 82 rfl rfl fun _ a w G1 hG HT H fin=>?_;obtain ⟨j,e1,hj,e2,wM⟩:=hrow' c0;exact kH H (YR aG (aC c1) rfl (aK hG (by have:=wM 4 _ rfl;rw [e1];exact this)) fun _ H=>fin H iJ rfl)
     clear H;intro a w G mK H hv;have H:=H.aQ (hv 25 93 rfl rfl) rfl;clear hv;refine aH ⟨rfl,?_⟩;refine bP _ _ ?_;clear bP;refine kV H rfl ?_ ?_
     ·intro CJ
      try have p93:=dT CJ
      refine kP H (SC (Rm rfl (Rm rfl ?_)));clear H;intro a H;obtain ⟨j,e1,hj,e2,wM⟩:=hrow' c0;refine Bu jY iV j H wn rfl rfl e1 hj rfl ?_;clear H;intro a H;refine kH H (Rf vB rfl ?_);clear H;intro a H;refine bD Ai (cs:=[vi q.flow,vi q.at_]) H wn rfl rfl (fun i v hi=>H.hp.aJ (aK mK (by match i,hi with|0,hi=>exact wM 3 v hi|1,hi=>exact wM 4 v hi))) rfl ?_;clear H;intro a H;refine kH H (Rf Ei rfl ?_);clear H;intro a H;refine bF Ai 0 (vs:=[_,_]) _ H wn rfl rfl rfl rfl rfl rfl rfl rfl ?_;clear H;intro w H;dsimp only [List.set,setRow] at H;refine aH ?_;refine ⟨(q.flow,q.at_,_),by exact (H).sub ⟨rfl,rfl,rfl,rfl,rfl,aB⟩,?_⟩;(try dsimp only);obtain ⟨j,e1,hj,e2,-⟩:=hrow' c0;exact ⟨(SY ⟨e2,c1,by have:=rH CJ;omega⟩).symm,fun b o h=>mK b o (gH b o h)⟩
     intro CJ
     try have p93:=dF CJ
     refine fO ?_;refine ⟨(A[k].flow,A[k].at_+1,_),by exact (H).sub ⟨rfl,rfl,rfl,rfl,rfl,aB⟩,?_⟩;(try dsimp only);refine ⟨(Ed ?_).symm,fun b o h=>mK b o (gH b o h)⟩
     by_cases h0:0≤K
     ·obtain ⟨j,e1,hj,e2,-⟩:=hrow' h0;rw [e2];dsimp only;rintro ⟨f1,f2⟩
      first|exact absurd f1 c1|(have:=of_decide_eq_false CJ;omega)|exact absurd h0 c0
     rw [Ot (by rw [← hK];exact h0)];trivial
    skip;refine dI hmx [[],[0],[0,1],[0,1,2],[0,1,2],(ra 0 5),(ra 0 6),(ra 0 7),(ra 0 8),[0,1,2],[0,1,2,9],[0,1,2,9,10],(ra 0 12),(ra 0 13),(ra 0 14),(ra 0 15),(ra 0 15),(ra 0 17),(ra 0 18),(ra 0 19),(ra 0 20),(ra 0 15),(ra 0 15++[21]),(ra 0 15++[21,22]),(ra 0 24),(ra 0 25)] [] (by kernel_rfl) [_,_,_,_,_,(aI b (o+K.toNat*5)),_,_,vi q.flow,_,_,vi A[k].flow,_,_,_,undef,undef,undef,undef,undef,undef,undef,undef,undef,undef,_] H (aD (Z0 rfl (Rm rfl)) (Z1 0 68 rfl (Rc rfl)) (Z1 1 69 rfl (Rm rfl)) (Z1 2 70 rfl (YM (aC c0) rfl)) (aD (Z1 2 70 rfl (YM (aC c0) rfl)) ?_ (Z2 5 73 2 70 rfl (YF vB (aC c0) rfl)) (Z2 6 74 2 70 rfl (YF Cu (aC c0) rfl)) (aD ?_ (Z1 2 70 rfl (YF xQ (aC c0) rfl)) (Z2 9 77 2 70 rfl (YF Cu (aC c0) rfl)) (Z2 10 78 2 70 rfl (YO aG 0 (aC c0) rfl)) (aD (Z3 8 76 11 79 2 70 rfl (YC (aC c0) rfl)) (Z2 2 70 12 80 rfl (Pt (aC c0) rfl)) (Z1 13 81 rfl (Rm rfl)) (aL (j:=14) (by kernel_rfl) (fun _ _ _ _ _ h=>h) rfl rfl rfl rfl rfl (fun _ _ h=>aN h (aF (aO c1))) rfl (fun _=>rfl)) (aD (aL (j:=14) (by kernel_rfl) (fun _ _ _ _ _ h=>h) rfl rfl rfl rfl rfl (fun _ _ h=>aN h (aF (aO c1))) rfl (fun _=>rfl)) (aL (j:=14) (by kernel_rfl) (fun _ _ _ _ _ h=>h) rfl rfl rfl rfl rfl (fun _ _ h=>aN h (aF (aO c1))) rfl (fun _=>rfl)) (aL (j:=14) (by kernel_rfl) (fun _ _ _ _ _ h=>h) rfl rfl rfl rfl rfl (fun _ _ h=>aN h (aF (aO c1))) rfl (fun _=>rfl)) (aL (j:=14) (by kernel_rfl) (fun _ _ _ _ _ h=>h) rfl rfl rfl rfl rfl (fun _ _ h=>aN h (aF (aO c1))) rfl (fun _=>rfl)) (aD (aL (j:=14) (by kernel_rfl) (fun _ _ _ _ _ h=>h) rfl rfl rfl rfl rfl (fun _ _ h=>aN h (aF (aO c1))) rfl (fun _=>rfl)) (aL (j:=14) (by kernel_rfl) (fun _ _ _ _ _ h=>h) rfl rfl rfl rfl rfl (fun _ _ h=>aN h (aF (aO c1))) rfl (fun _=>rfl)) (aL (j:=14) (by kernel_rfl) (fun _ _ _ _ _ h=>h) rfl rfl rfl rfl rfl (fun _ _ h=>aN h (aF (aO c1))) rfl (fun _=>rfl)) (aL (j:=14) (by kernel_rfl) (fun _ _ _ _ _ h=>h) rfl rfl rfl rfl rfl (fun _ _ h=>aN h (aF (aO c1))) rfl (fun _=>rfl)) (aW (aL (j:=14) (by kernel_rfl) (fun _ _ _ _ _ h=>h) rfl rfl rfl rfl rfl (fun _ _ h=>aN h (aF (aO c1))) rfl (fun _=>rfl)) (aW (Z2 14 82 24 92 rfl (Pf (aO c1) rfl)) bY)))))))) ?_
    ·refine qF 3 71 4 72 2 70 rfl rfl fun _ a w G1 hG HT H fin=>?_;obtain ⟨j,e1,hj,e2,wM⟩:=hrow' c0;refine Bu jY iV K.toNat H (wg H rfl rfl (aC c0)) rfl rfl (by omega) (by omega) rfl ?_;clear H;intro a H;exact fin H iJ rfl
    ·refine dz 7 75 2 70 rfl rfl fun _ a w G1 hG HT H fin=>?_;obtain ⟨j,e1,hj,e2,wM⟩:=hrow' c0;exact kH H (YR aG (aC c0) rfl (aK hG (by have:=wM 3 _ rfl;rw [e1];exact this)) fun _ H=>fin H iJ rfl)
    clear H;intro a w G mK H hv;have H:=H.aQ (hv 25 93 rfl rfl) rfl;clear hv;refine aH ⟨rfl,?_⟩;refine bP _ _ ?_;clear bP;refine kW H rfl rfl ?_;refine fO ?_;refine ⟨(A[k].flow,A[k].at_+1,_),by exact (H).sub ⟨rfl,rfl,rfl,rfl,rfl,aB⟩,?_⟩;(try dsimp only);refine ⟨(Ed ?_).symm,fun b o h=>mK b o (gH b o h)⟩
    by_cases h0:0≤K
    ·obtain ⟨j,e1,hj,e2,-⟩:=hrow' h0;rw [e2];dsimp only;rintro ⟨f1,f2⟩
     first|exact absurd f1 c1|(have:=of_decide_eq_false CJ;omega)|exact absurd h0 c0
    rw [Ot (by rw [← hK];exact h0)];trivial
   skip;refine dI hmx [[],[0],[0,1],[0,1,2],[0,1,2],(ra 0 5),(ra 0 6),(ra 0 7),(ra 0 8),[0,1,2],[0,1,2,9],[0,1,2,9,10],(ra 0 12),(ra 0 13),(ra 0 14),(ra 0 15),(ra 0 15),(ra 0 17),(ra 0 18),(ra 0 19),(ra 0 20),(ra 0 15),(ra 0 15++[21]),(ra 0 15++[21,22]),(ra 0 24),(ra 0 25)] [] (by kernel_rfl) [_,_,_,undef,undef,undef,undef,undef,undef,undef,undef,undef,undef,_,_,undef,undef,undef,undef,undef,undef,undef,undef,undef,undef,_] H (aD (Z0 rfl (Rm rfl)) (Z1 0 68 rfl (Rc rfl)) (Z1 1 69 rfl (Rm rfl)) (aL (j:=2) (by kernel_rfl) (fun _ _ _ _ _ h=>h) rfl rfl rfl rfl rfl (fun _ _ h=>aN h (aF (aO c0))) rfl (fun _=>rfl)) (aD (aL (j:=2) (by kernel_rfl) (fun _ _ _ _ _ h=>h) rfl rfl rfl rfl rfl (fun _ _ h=>aN h (aF (aO c0))) rfl (fun _=>rfl)) (aL (j:=2) (by kernel_rfl) (fun _ _ _ _ _ h=>h) rfl rfl rfl rfl rfl (fun _ _ h=>aN h (aF (aO c0))) rfl (fun _=>rfl)) (aL (j:=2) (by kernel_rfl) (fun _ _ _ _ _ h=>h) rfl rfl rfl rfl rfl (fun _ _ h=>aN h (aF (aO c0))) rfl (fun _=>rfl)) (aL (j:=2) (by kernel_rfl) (fun _ _ _ _ _ h=>h) rfl rfl rfl rfl rfl (fun _ _ h=>aN h (aF (aO c0))) rfl (fun _=>rfl)) (aD (aL (j:=2) (by kernel_rfl) (fun _ _ _ _ _ h=>h) rfl rfl rfl rfl rfl (fun _ _ h=>aN h (aF (aO c0))) rfl (fun _=>rfl)) (aL (j:=2) (by kernel_rfl) (fun _ _ _ _ _ h=>h) rfl rfl rfl rfl rfl (fun _ _ h=>aN h (aF (aO c0))) rfl (fun _=>rfl)) (aL (j:=2) (by kernel_rfl) (fun _ _ _ _ _ h=>h) rfl rfl rfl rfl rfl (fun _ _ h=>aN h (aF (aO c0))) rfl (fun _=>rfl)) (aL (j:=2) (by kernel_rfl) (fun _ _ _ _ _ h=>h) rfl rfl rfl rfl rfl (fun _ _ h=>aN h (aF (aO c0))) rfl (fun _=>rfl)) (aD (aL (j:=2) (by kernel_rfl) (fun _ _ _ _ _ h=>h) rfl rfl rfl rfl rfl (fun _ _ h=>aN h (aF (aO c0))) rfl (fun _=>rfl)) (Z2 2 70 12 80 rfl (Pf (aO c0) rfl)) (Z1 13 81 rfl (Rm rfl)) (aL (j:=14) (by kernel_rfl) (fun _ _ _ _ _ h=>h) rfl rfl rfl rfl rfl (fun _ _ h=>aN h (aF rfl)) rfl (fun _=>rfl)) (aD (aL (j:=14) (by kernel_rfl) (fun _ _ _ _ _ h=>h) rfl rfl rfl rfl rfl (fun _ _ h=>aN h (aF rfl)) rfl (fun _=>rfl)) (aL (j:=14) (by kernel_rfl) (fun _ _ _ _ _ h=>h) rfl rfl rfl rfl rfl (fun _ _ h=>aN h (aF rfl)) rfl (fun _=>rfl)) (aL (j:=14) (by kernel_rfl) (fun _ _ _ _ _ h=>h) rfl rfl rfl rfl rfl (fun _ _ h=>aN h (aF rfl)) rfl (fun _=>rfl)) (aL (j:=14) (by kernel_rfl) (fun _ _ _ _ _ h=>h) rfl rfl rfl rfl rfl (fun _ _ h=>aN h (aF rfl)) rfl (fun _=>rfl)) (aD (aL (j:=14) (by kernel_rfl) (fun _ _ _ _ _ h=>h) rfl rfl rfl rfl rfl (fun _ _ h=>aN h (aF rfl)) rfl (fun _=>rfl)) (aL (j:=14) (by kernel_rfl) (fun _ _ _ _ _ h=>h) rfl rfl rfl rfl rfl (fun _ _ h=>aN h (aF rfl)) rfl (fun _=>rfl)) (aL (j:=14) (by kernel_rfl) (fun _ _ _ _ _ h=>h) rfl rfl rfl rfl rfl (fun _ _ h=>aN h (aF rfl)) rfl (fun _=>rfl)) (aL (j:=14) (by kernel_rfl) (fun _ _ _ _ _ h=>h) rfl rfl rfl rfl rfl (fun _ _ h=>aN h (aF rfl)) rfl (fun _=>rfl)) (aW (aL (j:=14) (by kernel_rfl) (fun _ _ _ _ _ h=>h) rfl rfl rfl rfl rfl (fun _ _ h=>aN h (aF rfl)) rfl (fun _=>rfl)) (aW (Z2 14 82 24 92 rfl (Pf rfl rfl)) bY)))))))) ?_
   clear H;intro a w G mK H hv;have H:=H.aQ (hv 25 93 rfl rfl) rfl;clear hv;refine aH ⟨rfl,?_⟩;refine bP _ _ ?_;clear bP;refine kW H rfl rfl ?_;refine fO ?_;refine ⟨(A[k].flow,A[k].at_+1,_),by exact (H).sub ⟨rfl,rfl,rfl,rfl,rfl,aB⟩,?_⟩;(try dsimp only);refine ⟨(Ed ?_).symm,fun b o h=>mK b o (gH b o h)⟩
   by_cases h0:0≤K
   ·obtain ⟨j,e1,hj,e2,-⟩:=hrow' h0;rw [e2];dsimp only;rintro ⟨f1,f2⟩
    first|exact absurd f1 c1|(have:=of_decide_eq_false CJ;omega)|exact absurd h0 c0
   rw [Ot (by rw [← hK];exact h0)];trivial
  clear H;intro gh a w hI H;obtain ⟨tf,ta,g12⟩:=gh;dsimp only at hI H;obtain ⟨hend,aeI⟩:=hI;dsimp only [lca,aZ] at H;refine kP H (SC (Rm rfl ?_));clear H;intro a H;refine bD kR (cs:=[_,_,_,_,_,_]) H wn rfl rfl (H.hp.dY 0 rfl rfl) rfl ?_;clear H;intro a H;refine gQ tO kR [_,_,_,_,_,_] [_,_,_,_,_,_] H wn rfl rfl rfl rfl rfl (by intro i q h;match i,h with|0,h=>exact h|n+1,h=>simp at h) rfl rfl ?_;clear H;intro ajr a w ajx H;refine oL (Li:=[_,_]) (Lo:=Lo) (news:=[vi A[k].id,.string A[k].name,vi A[k].flow,vi (A[k].at_+1),vi tf,vi ta]) tO kR rfl rfl H wn rfl rfl hrw rfl (H.hp.dY 0 rfl rfl) rfl (by omega) (by omega) rfl ?_;clear H;intro aiS YA a w UN H;rw [show [vi A[k].id,Value.string A[k].name,vi A[k].flow,vi (A[k].at_+1),vi tf,vi ta]=(wY A code A[k]).cells by simp only [wY,iP.cells,← hend]] at UN;refine kH H (aV K7 rfl (SC (Rm rfl (Rd rfl (Ra rfl ?_)))));clear H K7;intro a H;refine aH ?_;refine dw ((k+1,aiS,YA,_)) (by exact (H.dU (Pl:=[_,_]) (cK:=[]) [] (by decide) rfl).sub ⟨rfl,rfl,rfl,rfl,aB⟩) ?_ ?_
  ·(try dsimp only);exact ⟨by omega,by rw [WZ hk2 hst,lH,WX];exact UN,fun b o h=>aeI b o (hgm b o h)⟩
  first|omega|(dsimp only;omega)
 intro h12 a H
 try have oJ:=dF h12
 obtain rfl:k=A.length:=by omega
 have hall:qy A code A.length=qx A code:=by unfold qy qx;rw [yY]
 rw [hall] at hrw;refine dW ?_;refine K3 _ _ ?_;clear K3;refine kP H (SR fun _ dJ=>Rm rfl (ak dJ rfl ?_));clear H dJ;intro a H;refine lr H results15 rfl ?_;obtain ⟨Gr,hmr,hrep,H⟩:=St.sV (Li:=[]) H hrw (rows:=(qx A code).map iP.dat) (by simp) (Py _ _);exact H.rt (by rw [hall];exact hrep)
theorem Ta:Ib prog 55 [(0,0),(1,1),(2,2),(4,2)]:=⟨by kernel_rfl,by kernel_rfl,by kernel_rfl,by kernel_rfl,by kernel_rfl⟩
theorem Hf {G:GH} {A:List iP} {v:Option Addr} {n c k:Nat} (h:av G (.sl 6 (A.map iP.dat)) (.slice v n c)) (hk:k < A.length):∃ b o,v=some ⟨b,o,none⟩∧∀ j u,A[k].cells[j]?=some u→aJ G b (o+k*6+j)=some u:=by
 obtain ⟨b,o,cs,rfl,hcl,hrow,hr⟩:=h.at_ k A[k].dat (by simp [hk]);obtain rfl:=Xa hr;exact ⟨b,o,rfl,hrow⟩
theorem WQ (G:GH) (w0:World) (hG:Hold G w0) (A:List iP) (v u:aj) (hv:av G (.sl 6 (A.map iP.dat)) v) (hu:av G (.sl 6 (A.map iP.dat)) u) (hl:A.length≤4294967296) :
  Calls prog 13 #[v,u] w0 (bC w0 G fun r G'=>r=.bool true):=by
 obtain ⟨vA,n,cc,rfl⟩:=hv.form;have hn:=hv.len;rw [bT] at hn;subst hn;obtain ⟨uA,m,uc,rfl⟩:=hu.form;have hm:=hu.len;rw [bT] at hm;subst hm;refine eN [(0,_),(1,_)] func13 rfl ntmps13 rfl rfl hG ?_;intro a H;refine kP H (SR fun _ K1=>ak K1 rfl (SQ fun _ K2=>SR fun _ K3=>Rm rfl (Rl tO rfl (Rm rfl (Rl tO rfl (Rc rfl (Kz K3 (Cd rfl ?_ ?_)))))))) <;> clear H K1 K3
 ·intro h10 a H
  exact absurd h10 (by simp)
 intro h10 a H
 try have lg:=dF h10
 refine kP H (Kc K2 (SQ fun _ K4=>SR fun _ K5=>ak K5 rfl (SB ?_)));clear H K2 K5;intro a H;skip;refine eZ (ι:=Nat × GH) (Tc:=[(0,_),(1,_)]) (Lc:=[]) (fun gh=>[(5,vi gh.1)]) (fun gh=>[]) (fun gh=>gh.2) (fun gh=>gh.1≤A.length∧(∀ b o,G b=some o→gh.2 b=some o)) (fun gh=>A.length - gh.1) ((0,G)) (by exact (H).sub ⟨rfl,rfl,rfl,aB⟩) ?_ ?_
 ·exact ⟨iK _,fun _ _ h=>h⟩
 clear H;intro gh a w hI H;obtain ⟨k,g⟩:=gh;dsimp only at hI H;obtain ⟨hk,hgm⟩:=hI;dsimp only [lca,aZ] at H;refine kP H (SQ fun _ K6=>SR fun _ K7=>Rm rfl (Rm rfl (Rl tO rfl (Rc rfl (Kz K7 (Cd rfl ?_ ?_)))))) <;> clear H K7
 ·intro dO a H
  try have lQ:=dT dO
  have hk2:k < A.length:=by omega
  obtain ⟨b,o,rfl,hrow⟩:=Hf (hv.mono hgm) hk2;obtain ⟨b',o',rfl,hrow'⟩:=Hf (hu.mono hgm) hk2;refine kP H (Kc K6 (SQ fun _ K8=>SB (SQ fun _ K9=>?_)));clear H K6;intro a H;refine dI hmx [[],[],[0,1],[0,1,2],[],[],[4,5],[4,5,6],(ra 0 8)] [] (by kernel_rfl) [_,_,_,.agg A[k].cells.toArray,_,_,_,.agg A[k].cells.toArray,.bool false] H (aD (Z0 rfl (Rm rfl)) (Z0 rfl (Rm rfl)) (Z2 0 17 1 18 rfl (Ri tO kR rfl rfl)) ?_ (aD (Z0 rfl (Rm rfl)) (Z0 rfl (Rm rfl)) (Z2 4 21 5 22 rfl (Ri tO kR rfl rfl)) ?_ (aW ?_ bY))) ?_
  ·refine dL 2 19 rfl rfl fun _ a w G1 hG HT H fin=>?_;refine bD kR (cs:=A[k].cells) H wn rfl rfl (fun j v hj=>H.hp.aJ (aK hG (hrow j v hj))) rfl ?_;clear H;intro a H;exact fin H iJ rfl
  ·refine dL 6 23 rfl rfl fun _ a w G1 hG HT H fin=>?_;refine bD kR (cs:=A[k].cells) H wn rfl rfl (fun j v hj=>H.hp.aJ (aK hG (hrow' j v hj))) rfl ?_;clear H;intro a H;exact fin H iJ rfl
  ·refine dz 3 20 7 24 rfl rfl fun _ a w G1 hG HT H fin=>?_;refine Pp Ta H wn rfl rfl rfl rfl ?_;clear H;intro a H;exact fin H iJ (aF (by simp [iR,jq]))
  clear H;intro a w G gH H hv;have H:=H.aQ (hv 8 25 rfl rfl) rfl;clear hv;refine aH ⟨rfl,?_⟩;refine K9 _ _ ?_;clear K9;refine kW H rfl rfl ?_;refine kP H (Kc K8 (SC (Rm rfl (Rd rfl (Ra rfl ?_)))));clear H K8;intro a H;refine aH ?_;refine dw ((k+1,_)) (by exact (H).sub ⟨rfl,rfl,rfl,aB⟩) ?_ ?_
  ·(try dsimp only);exact ⟨by omega,fun b o h=>gH b o (hgm b o h)⟩
  first|omega|(dsimp only;omega)
 intro dO a H
 refine dW ?_;refine K4 _ _ ?_;clear K4;exact kP H (SR fun _ aS=>ak aS rfl (LR results13 rfl fun H=>H.rt rfl))
end
section
open Go.RowKit
theorem SE:∀ args w,(callFunc 37 args).run prog w=.ok (.enter 37 args) w:=enters func37 rfl (by kernel_rfl)
theorem adi:bV prog 55 1 1:=⟨by kernel_rfl⟩
theorem Mi:∀ args w,(callFunc 14 args).run prog w=.ok (.enter 14 args) w:=enters func14 rfl (by kernel_rfl)
theorem abW:∀ args w,(callFunc 46 args).run prog w=.ok (.enter 46 args) w:=enters func46 rfl (by kernel_rfl)
theorem abX:∀ args w,(callFunc 47 args).run prog w=.ok (.enter 47 args) w:=enters func47 rfl (by kernel_rfl)
theorem LA (G:GH) (w0:World) (hG:Hold G w0) (D:nK) (l:List ay) (hv:av G (.sl 11 (l.map ay.dat)) (fq D.f)) (hok:fQ l) (hz:bg l≤1073741824) :
  Calls prog 14 #[D.val] w0 (bC w0 G fun u G'=>av G' (.sl 6 ((qx (fJ 0 0 l) 1).map iP.dat)) u):=by
 refine eN [(0,_)] func14 rfl ntmps14 rfl rfl hG ?_;intro a H;refine cO (fun _ K1=>?_);refine fC (cs:=[_,_,_,_,_,_,_,_,_,_,_]) H wn rfl rfl rfl ?_;clear H;intro b1 a w hb1 H;refine kH H (ak K1 rfl (SQ fun _ K2=>?_));clear H K1;intro a H;obtain ⟨Ga,hma,hb',H⟩:=H.dP;have hga:=fun j v hj=>zx hb' 0 D.cells rfl j v hj;refine oz ?_;refine bD ru (cs:=D.cells) H wn rfl rfl (fun j v hj=>H.hp.aJ (hga j v hj)) rfl ?_;clear H;intro a H;refine s_call SE H wn rfl (Xc _ _ H.ro D l (hv.mono hma) hok hz 1 (by omega)) rfl ?_;clear H;rintro v4 G4 a w hr Ev H;obtain ⟨A4,n4,c4,rfl⟩:=hr.form;exact kH H (aV K2 rfl (LR results14 rfl fun H=>H.rt hr))
theorem aar (G:GH) (w0:World) (hG:Hold G w0) (D:nK) (l:List ay) (hv:av G (.sl 11 (l.map ay.dat)) (fq D.f)) (hok:fQ l) (hz:bg l≤1073741824) :
  Calls prog 16 #[D.val] w0 (bC w0 G fun u G'=>av G' (.sl 6 ((qx (fJ 0 0 l) 3).map iP.dat)) u):=by
 refine eN [(0,_)] func16 rfl ntmps16 rfl rfl hG ?_;intro a H;refine cO (fun _ K1=>?_);refine fC (cs:=[_,_,_,_,_,_,_,_,_,_,_]) H wn rfl rfl rfl ?_;clear H;intro b1 a w hb1 H;refine kH H (ak K1 rfl (SQ fun _ K2=>?_));clear H K1;intro a H;obtain ⟨Ga,hma,hb',H⟩:=H.dP;have hga:=fun j v hj=>zx hb' 0 D.cells rfl j v hj;refine oz ?_;refine bD ru (cs:=D.cells) H wn rfl rfl (fun j v hj=>H.hp.aJ (hga j v hj)) rfl ?_;clear H;intro a H;refine s_call SE H wn rfl (Xc _ _ H.ro D l (hv.mono hma) hok hz 3 (by omega)) rfl ?_;clear H;rintro v4 G4 a w hr Ev H;obtain ⟨A4,n4,c4,rfl⟩:=hr.form;exact kH H (aV K2 rfl (LR results16 rfl fun H=>H.rt hr))
theorem adr {G:GH} {b:Nat} {s:ByteArray} (hb:aJ G b 0=some (.string s)) (x:iP):uT (.func (.func 47) #[] #[(aI b 0)]) G x.dat (decide (x.name=s)):=by
 intro G1 w0 cs hm hG hr;obtain rfl:=Xa hr;refine lZ (caps:=[(aI b 0)]) abX ?_;replace hb:=aK hm hb;refine eN [(0,_),(1,_)] func47 rfl ntmps47 rfl rfl hG ?_;intro a H;refine cO (fun _ K1=>?_);refine fC (cs:=[_,_,_,_,_,_]) H wn rfl rfl rfl ?_;clear H;intro b2 a w hb2 H;refine kH H (ak K1 rfl (SR fun _ K2=>aR adi fZ 0 rfl rfl (Rg fZ rfl hb ?_)));clear H K1;intro a H;refine Bt H wn rfl rfl rfl ?_;clear H;intro a H;exact kH H (ak K2 rfl (LR results47 rfl fun H=>H.rt (aF (by rw [nE,decide_eq_true_iff,beq_iff_eq];exact ⟨RB,fun h=>by rw [h]⟩))))
theorem afF (G:GH) (w0:World) (hG:Hold G w0) (l:List iP) (p:iP→Bool) (v fv:aj) (hv:av G (.sl 6 (l.map iP.dat)) v) (hf:∀ x∈l,uT fv G x.dat (p x)) :
  Calls prog 46 #[v,fv] w0 (bC w0 G fun u G'=>u=vi (mX (l.findIdx? p))):=by
 obtain ⟨A,c,rfl,hc1,hc2,-⟩:=hv.slice;have hml:maxLen=9223372036854775807:=rfl;rw [bT] at *;refine eN [(0,_),(1,_)] func46 rfl ntmps46 rfl rfl hG ?_;intro a H;refine kP H (SR fun _ K1=>ak K1 rfl (SQ fun _ K2=>SR fun _ K3=>Rm rfl (Rl tO rfl (Rm rfl (Kz K3 (SB ?_))))));clear H K1 K3;intro a H;skip;refine eZ (ι:=Nat × GH) (Tc:=[(0,_),(1,_),(7,_)]) (Lc:=[]) (fun gh=>[(8,vi gh.1)]) (fun gh=>[]) (fun gh=>gh.2) (fun gh=>gh.1≤l.length∧(l.take gh.1).findIdx? p=none∧(∀ b o,G b=some o→gh.2 b=some o)) (fun gh=>l.length - gh.1) ((0,G)) (by exact (H).sub ⟨rfl,rfl,rfl,rfl,aB⟩) ?_ ?_
 ·exact ⟨by omega,rfl,fun _ _ h=>h⟩
 clear H;intro gh a w hI H;obtain ⟨k,g⟩:=gh;dsimp only at hI H;obtain ⟨hk,hno,hgm⟩:=hI;dsimp only [lca,aZ] at H;refine kP H (SR fun _ K4=>Rc rfl (Kz K4 (SQ fun _ K5=>Cd rfl ?_ ?_))) <;> clear H K4
 ·intro h9 a H
  try have p9:=dT h9
  have hk2:k < l.length:=by omega
  obtain ⟨b,o,rfl,hrow⟩:=Hf hv hk2;refine kP H (Kc K5 (SQ fun _ K6=>SB (SR fun _ K7=>Rm rfl (ak K7 rfl (SR fun _ K8=>Rm rfl (Rm rfl (Rm rfl (Ri tO kR rfl rfl ?_))))))));clear H K5 K7;intro a H;refine bD kR (cs:=l[k].cells) H wn rfl rfl (fun j v hj=>H.hp.aJ (aK hgm (hrow j v hj))) rfl ?_;clear H;intro a H;refine oM H wn rfl rfl (hf _ (iQ hk2) _ _ _ hgm H.ro (Xb _ l[k])) rfl ?_;clear H;rintro v16 qC a w rfl qM H;refine K8 _ _ ?_;clear K8;refine kV H rfl ?_ ?_
  ·intro h16
   try have p16:=dT h16
   refine kP H (SR fun _ K9=>Rm rfl (ak K9 rfl ?_));clear H K9;intro a H;refine lr H results46 rfl ?_
   first
    | exact H.rt (by rw [tJ hk2 hno h16];rfl)
    | exact H.rt (by rw [show l.take k=l from jA (by omega)] at hno;rw [hno];rfl)
  intro h16
  try have p16:=dF h16
  refine kP H (Kc K6 (SC (Rd rfl (Rm rfl ?_))));clear H K6;intro a H;refine aH ?_;refine dw ((k+1,qC)) (by exact (H).sub ⟨rfl,rfl,rfl,rfl,aB⟩) ?_ ?_
  ·(try dsimp only);exact ⟨by omega,zV hk2 hno h16,fun b o h=>qM b o (hgm b o h)⟩
  first|omega|(dsimp only;omega)
 intro h9 a H
 try have p9:=dF h9
 refine dW ?_;refine K2 _ _ ?_;clear K2;refine kP H (SR fun _ aS=>ak aS rfl ?_);clear H aS;intro a H;refine lr H results46 rfl ?_
 first
  | exact H.rt (by rw [tJ hk2 hno h16];rfl)
  | exact H.rt (by rw [show l.take k=l from jA (by omega)] at hno;rw [hno];rfl)
def ajm:iP:=⟨0,⟨#[]⟩,0,0,0,0⟩
def FY (l:List ay) (s:ByteArray):Option iP:=(qx (fJ 0 0 l) 1).find? fun x=>decide (x.name=s)
theorem afN {l:List iP} {p:iP→Bool}:(¬ 0≤mX (l.findIdx? p)→l.find? p=none)∧(0≤mX (l.findIdx? p)→∃ (k:Nat) (hk:k < l.length),mX (l.findIdx? p)=k∧l.find? p=some l[k]):=by
 cases h:l.findIdx? p with
 | none =>
  refine ⟨fun _=>?_,fun h=>absurd h (by decide)⟩;rw [List.find?_eq_none];intro x hx;have:=List.findIdx?_eq_none_iff.1 h x hx
  simp [this]
 | some k =>
  obtain ⟨hk,h1,h2⟩:=List.findIdx?_eq_some_iff_getElem.1 h;refine ⟨fun hn=>absurd (Int.natCast_nonneg k) hn,fun _=>⟨k,hk,rfl,?_⟩⟩;rw [List.find?_eq_some_iff_getElem];exact ⟨h1,k,hk,rfl,fun j hj=>by simpa using h2 j hj⟩
theorem YX (G:GH) (w0:World) (hG:Hold G w0) (D:nK) (l:List ay) (s:ByteArray) (hv:av G (.sl 11 (l.map ay.dat)) (fq D.f)) (hok:fQ l) (hz:bg l≤1073741824) :
  Calls prog 26 #[D.val,.string s] w0 (bC w0 G fun u G'=>u=.tuple #[.agg ((FY l s).getD ajm).cells.toArray,.bool (FY l s).isSome]):=by
 refine eN [(0,_),(1,_)] func26 rfl ntmps26 rfl rfl hG ?_;intro a H;refine cO (fun _ K1=>?_);refine fC (cs:=[_,_,_,_,_,_,_,_,_,_,_]) H wn rfl rfl rfl ?_;clear H;intro b2 a w hb2 H;refine fC (cs:=[_]) H wn rfl rfl rfl ?_;clear H;intro b3 a w hb3 H;refine eU kR H wn rfl ?_;clear H;intro b4 a w hb4 H;refine kH H (ak K1 rfl (SQ fun _ K2=>?_));clear H K1;intro a H;have H:=H.dU (Pl:=[_,_,_]) (cK:=[_,_,_]) [2,1,0] (by decide) rfl;obtain ⟨Ga,hma,hb',H⟩:=H.dP;obtain ⟨Gb,hmb,zL,H⟩:=H.dP;have hga:=fun j v hj=>aK hmb (zx hb' 0 D.cells rfl j v hj);replace hv:=(hv.mono hma).mono hmb
 have hs3:aJ Gb b3 0=some (.string s):=by unfold aJ;rw [zL];rfl
 refine oz ?_;refine bD ru (cs:=D.cells) H wn rfl rfl (fun j v hj=>H.hp.aJ (hga j v hj)) rfl ?_;clear H;intro a H;refine s_call Mi H wn rfl (LA _ _ H.ro D l hv hok hz) rfl ?_;clear H;rintro v9 G9 a w hr wI H;obtain ⟨R,hR⟩:∃ R,R=qx (fJ 0 0 l) 1:=⟨_,rfl⟩
 have hfn:FY l s=R.find? fun x=>decide (x.name=s):=by rw [hR];rfl
 rw [← hR] at hr;obtain ⟨A9,n9,c9,rfl⟩:=hr.form;have UA:=hr.len;rw [bT] at UA;subst UA;refine kH H (aV K2 rfl (SQ fun _ K3=>SR fun _ K4=>Rm rfl ?_));clear H K2;intro a H;refine pO H wn rfl rfl ?_;clear H;intro a H;refine s_call abW H wn rfl (afF _ _ H.ro R (fun x=>decide (x.name=s)) _ _ hr (fun x _=>adr (aK wI hs3) x)) rfl ?_;clear H;rintro v12 Au a w rfl CP H;obtain ⟨hx1,hx2⟩:=afN (l:=R) (p:=fun x=>decide (x.name=s));replace hr:=hr.mono CP;refine kH H (ak K4 rfl (SR fun _ K5=>Rm rfl (Rc rfl (Kz K5 (Cd rfl ?_ ?_))))) <;> clear H K4 K5
 ·intro dO a H
  try have lQ:=dT dO
  obtain ⟨k,hk,e1,e2⟩:=hx2 lQ;obtain ⟨b,o,rfl,hrow⟩:=Hf hr hk;rw [e1] at H;refine kP H (SR fun _ K6=>Rm rfl (Rm rfl (Ri tO kR rfl rfl ?_)));clear H;intro a H;refine bD kR (cs:=R[k].cells) H wn rfl rfl (fun j v hj=>H.hp.aJ (hrow j v hj)) rfl ?_;clear H;intro a H;refine bF kR 0 (vs:=[_,_,_,_,_,_]) _ H wn rfl rfl rfl rfl rfl rfl rfl rfl ?_;clear H;intro w H;dsimp only [List.set,setRow] at H;refine kH H (ak K6 rfl ?_);clear H K6;intro a H;refine cu ?_;refine (eT H results26 (.cons (Ab kR (cs:=[_,_,_,_,_,_]) H rfl rfl (H.hp.dY 0 rfl rfl)) (.cons (aU H rfl) .nil)) ?_).1;exact H.rt (by rw [hfn,e2];rfl)
 intro dO a H
 try have lQ:=dF dO
 have e2:=hx1 lQ;refine fO ?_;refine K3 _ _ ?_;clear K3;refine cO (fun _ K7=>?_);refine jJ Kh [_,_,_,_,_,_] H wn rfl rfl rfl rfl ?_;clear H;intro a H;refine bF kR 0 (vs:=[_,_,_,_,_,_]) _ H wn rfl rfl rfl rfl rfl rfl rfl rfl ?_;clear H;intro w H;dsimp only [List.set,setRow] at H;refine kH H (ak K7 rfl ?_);clear H K7;intro a H;refine cu ?_;refine (eT H results26 (.cons (Ab kR (cs:=[_,_,_,_,_,_]) H rfl rfl (H.hp.dY 0 rfl rfl)) (.cons (aU H rfl) .nil)) ?_).1;exact H.rt (by rw [hfn,e2];rfl)
end
section
open Go.RowKit
end
section
open Go.RowKit
theorem Sg:∀ args w,(callFunc 103 args).run prog w=.ok (.enter 103 args) w:=enters func103 rfl (by kernel_rfl)
def gu:Nat→List ay→List (Nat × ay)
 | _,[]=>[]
 | o,x :: l=>(o,x) :: gu (o+dV x) l
def ED (a:Nat × ay):AP:=fun args g=>∃ cs,args=[vi a.1,.agg cs.toArray]∧aY g a.2.dat cs
theorem Vf {A:List (Nat × ay)} {k:Nat} {args:List aj} {g:GH} (h:tQ (A.map ED) k args g):∃ (hk:k < A.length) (cs:List aj),args=[vi A[k].1,.agg cs.toArray]∧aY g A[k].2.dat cs:=by
 obtain ⟨p,hp,hargs⟩:=h;rw [pY] at hp;obtain ⟨q,hq,rfl⟩:=lD.1 hp;obtain ⟨hk,rfl⟩:=iX.1 hq;obtain ⟨cs,h1,h2⟩:=hargs;exact ⟨hk,cs,h1,h2⟩
theorem VU:∀ (l:List ay) (o:Nat),(gu o l).length=l.length
 | [],_=>rfl
 | x :: l,o=>by simp [gu,VU l]
theorem PY (x:ay):dV x < cB x.dat:=by
 have:=nZ x;have h2:=FH x.text
 unfold dV;split <;> omega
set_option maxHeartbeats 1000000 in
theorem afK {G:GH} {bd:Nat} {l:List ay} {v:aj} (hb:aJ G bd 0=some v) (hv:av G (.sl 11 (l.map ay.dat)) v) (hz:bg l≤4294967290) :
  Iter prog G (.func (.func 103) #[] #[(aI bd 0)]) ((gu 0 l).map ED):=by
 intro J Jx fv G1 L w0 Uk hGi uz hJx hJ hO hcb;refine lZ (caps:=[(aI bd 0)]) Sg ?_;obtain ⟨A,c,rfl,hc1,hc2,hg⟩:=hv.slice;rw [bT] at *;have hll:=BM l;replace hb:=aK hGi hb;refine jN (N:=28) (T:=[(0,_),(1,_)]) func103 rfl ntmps103 rfl rfl hO ?_;intro a H;refine kP H (SR fun _ K1=>ak K1 rfl (SR fun _ K2=>Rg gZ rfl (by assumption) ?_));clear H K1;intro a H;refine kH H (Rl gI rfl (Rm rfl (Kz K2 (SB ?_))));clear H K2;intro a H;skip;refine eZ (ι:=Nat × Nat × Nat × OL × GH) (Tc:=[(0,_),(8,_),(9,_)]) (Lc:=[]) (fun gh=>[(3,vi gh.2.1),(10,vi gh.1)]) (fun gh=>[]++gh.2.2.2.1) (fun gh=>gh.2.2.2.2) (fun gh=>gh.1≤l.length∧(∀ b o,G1 b=some o→gh.2.2.2.2 b=some o)∧Now ((gu 0 l).map ED) ED J (gu 0 l).length gh.2.2.1 (gu gh.2.1 (l.drop gh.1)) gh.2.2.2.2 gh.2.2.2.1∧gh.2.1+bg (l.drop gh.1)≤4294967290) (fun gh=>l.length - gh.1) ((0,0,0,L,G1)) (by exact (H).sub ⟨rfl,rfl,rfl,rfl,rfl,aB⟩) ?_ ?_
 ·exact ⟨by omega,fun _ _ h=>h,⟨hJ,fun i a h=>by rw [kK,pY];rw [tZ] at h;rw [h];rfl,by simp⟩,by simp;omega⟩
 clear H;intro gh a w hI H;obtain ⟨k,at_,j1,Lt,g⟩:=gh;dsimp only at hI H;obtain ⟨hk,hgm,dX,hat⟩:=hI;dsimp only [lca,aZ] at H;refine bq (fun _ K3=>?_);skip;refine kP H (SC (Rc rfl (Kn K3 (SQ fun _ K4=>Cd rfl ?_ ?_)))) <;> clear H K3
 ·intro h11 a H
  try have mZ:=dT h11
  have hk2:k < l.length:=by omega
  obtain ⟨b,o,pA,pn,pc,dA,dn,dc,yA,yn,yc,fA,fn,fc,rA,rn,rc,rfl,hrow,hhd,hfl,hrw⟩:=zw hk2 hg;have Jj:∀ b o,G b=some o→g b=some o:=fun b o h=>hgm b o (hGi b o h);replace hrow:=fun j u hj=>aK Jj (hrow j u hj);have hsz2:=HY (iQ hk2);have hn1:=PY l[k];have hzi:=nZ l[k];rw [lG hk2] at dX hat;rw [bg,eY,eD] at hat;rw [gu] at dX;refine kP H (Kc K4 (SQ fun _ K5=>SB (SR fun _ K6=>Ri gI dB rfl rfl ?_)));clear H K4;intro a H;refine bD dB (cs:=[_,_,_,_,_,_,_,_,_,_,_]) H wn rfl rfl (fun j v hj=>H.hp.aJ (hrow j v hj)) rfl ?_;clear H;intro a H;refine eU dB H wn rfl ?_;clear H;intro b5 a w hb5 H;refine bF dB 0 (vs:=[_,_,_,_,_,_,_,_,_,_,_]) _ H wn rfl rfl rfl rfl rfl rfl rfl rfl ?_;clear H;intro w H;dsimp only [List.set,setRow] at H;refine K6 _ _ ?_;clear K6;refine kP H (SQ fun _ K7=>SR fun _ K8=>Rm rfl (Rm rfl ?_));clear H;intro a H;refine bD dB (cs:=[_,_,_,_,_,_,_,_,_,_,_]) H wn rfl rfl (H.hp.dY 0 rfl rfl) rfl ?_;clear H;intro a H;refine EM (Li:=[_]) (L:=Lt) H wn rfl rfl (hcb j1 _ _ _ _ ⟨_,dX.head,_,rfl,aY.mkItem (hhd.mono Jj) (hfl.mono Jj) (hrw.mono Jj)⟩ hgm dX.now (Hp.owns (Li:=[_]) H.hp)) rfl ?_;clear H;rintro v17 yM KS a w ⟨b17,rfl,hb1,hb2⟩ qo H;refine kH H (Rn rfl (Kz K8 (Cd rfl ?_ ?_))) <;> clear H K8
  ·intro h18 a H
   try have vK:=dT h18
   refine cu ?_;refine (leave0 H results103 ?_).1
   first
    | exact H.hp.gM (L':=KS) (by repeat (first|exact iD _|apply List.Sublist.cons)) (.inr (hb2 (by simpa using h18)))
    | exact H.hp.eB (.inl (by have:=dX.len;rw [iC (by omega)] at this;simp only [gu,List.length_nil,sJ] at this;(try rw [bT]);rw [← this];exact dX.now))
  intro h18 a H
  try have vK:=dF h18
  refine fO ?_;refine K7 _ _ ?_;clear K7;refine cO (fun _ K9=>?_);refine bD dB (cs:=[_,_,_,_,_,_,_,_,_,_,_]) H wn rfl rfl (H.hp.dY 0 rfl rfl) rfl ?_;clear H;intro a H;refine s_call Ms H wn rfl (PZ _ _ H.ro _ _ _ _ _ _ _ _ _ _ (by omega)) rfl ?_;clear H;rintro v21 _ a w ⟨rfl,rfl⟩ - H;refine kH H (Rm rfl ?_);clear H;intro a H;(iterate 2 refine lu H wn rfl rfl rfl ?_;clear H;intro a H);refine kH H (Ra rfl (ak K9 rfl (SC (Rm rfl (Rm rfl (Rd rfl (aV K5 rfl (SC (Rd rfl (Rm rfl ?_))))))))));clear H K9 K5;intro a H;refine aH ?_;refine dw ((k+1,at_+dV l[k],j1+1,KS,yM)) (by exact (H.dU (Pl:=[_]) (cK:=[]) [] (by decide) rfl).sub ⟨rfl,rfl,rfl,rfl,rfl,aB⟩) ?_ ?_
  ·(try dsimp only);exact ⟨by omega,fun b o h=>qo b o (hgm b o h),dX.step (hb1 (by simpa using h18)),by show at_+dV l[k]+eD ((l.drop (k+1)).map ay.dat)≤4294967290;omega⟩
  first|omega|(dsimp only;omega)
 intro h11 a H
 try have mZ:=dF h11
 refine dW ?_;refine (leave0 H results103 ?_).2
 first
  | exact H.hp.gM (L':=KS) (by repeat (first|exact iD _|apply List.Sublist.cons)) (.inr (hb2 (by simpa using h18)))
  | exact H.hp.eB (.inl (by have:=dX.len;rw [iC (by omega)] at this;simp only [gu,List.length_nil,sJ] at this;(try rw [bT]);rw [← this];exact dX.now))
theorem afL (G:GH) (w0:World) (hG:Hold G w0) (l:List ay) (v:aj) (hv:av G (.sl 11 (l.map ay.dat)) v) (hz:bg l≤4294967290) :
  Calls prog 68 #[v] w0 (bC w0 G fun u G'=>∃ bd,u=.func (.func 103) #[] #[(aI bd 0)]∧Iter prog G' u ((gu 0 l).map ED)):=by
 obtain ⟨A,c,rfl,hc1,hc2,hg⟩:=hv.slice;refine eN [(0,_)] func68 rfl ntmps68 rfl rfl hG ?_;intro a H;refine cO (fun _ K1=>?_);refine fC (cs:=[_]) H wn rfl rfl rfl ?_;clear H;intro b1 a w hb1 H;refine kH H (ak K1 rfl (SR fun _ K2=>?_));clear H K1;intro a H;refine pO H wn rfl rfl ?_;clear H;intro a H;refine kH H (ak K2 rfl ?_);clear H K2;intro a H;refine cu ?_;obtain ⟨G2,hm2,hb1,H⟩:=H.dP;refine lv H results68 rfl ?_;exact H.rt ⟨b1,rfl,afK (by unfold aJ;rw [hb1];rfl) (hv.mono hm2) hz⟩
end
section
open Go.RowKit
theorem acn:∀ args w,(callFunc 68 args).run prog w=.ok (.enter 68 args) w:=enters func68 rfl (by kernel_rfl)
def vE (t:Int) (a:Nat × ay):Bool:=decide ((a.1:Int)+dV a.2≤t)
def lA (t:Int) (A:List (Nat × ay)):List ay:=(A.filter (vE t)).map (·.2)
def rA (t:Int) (A:List (Nat × ay)):List ay:=(A.filter fun a=>!vE t a).map (·.2)
theorem afU {t:Int} {A:List (Nat × ay)} {k:Nat} (hk:k < A.length) (h:vE t A[k]=true):lA t (A.take (k+1))=lA t (A.take k)++[A[k].2]∧rA t (A.take (k+1))=rA t (A.take k):=by
 rw [jE hk];simp only [lA,rA,List.filter_append,nD];simp [h]
theorem afT {t:Int} {A:List (Nat × ay)} {k:Nat} (hk:k < A.length) (h:vE t A[k]=false):lA t (A.take (k+1))=lA t (A.take k)∧rA t (A.take (k+1))=rA t (A.take k)++[A[k].2]:=by
 rw [jE hk];simp only [lA,rA,List.filter_append,nD];simp [h]
theorem afS (t:Int) (A:List (Nat × ay)):(lA t A).length≤A.length:=by simp only [lA,bT];exact List.length_filter_le _ _
theorem ahb (t:Int) (A:List (Nat × ay)):(rA t A).length≤A.length:=by simp only [rA,bT];exact List.length_filter_le _ _
def uH (t:Int) (l:List ay):List ay:=lA t (gu 0 l)
def Bq (t:Int) (l:List ay):List ay:=rA t (gu 0 l)
theorem VW:∀ {l:List ay} {o:Nat} {a:Nat × ay},a∈gu o l→a.2∈l∧a.1+cB a.2.dat≤o+bg l
 | [],_,_,h=>by cases h
 | x :: l,o,a,h=>by
  rw [gu] at h;have hu:=PY x
  rcases lX.1 h with rfl|h
  ·exact ⟨iB,by simp only [bg,eY,eD];omega⟩
  obtain ⟨h1,h2⟩:=VW h;exact ⟨jU _ h1,by simp only [bg,eY,eD] at *;omega⟩
theorem Sb (G:GH) (w0:World) (hG:Hold G w0) (l:List ay) (t:Int) (v:aj) (hv:av G (.sl 11 (l.map ay.dat)) v) (hz:bg l≤1073741824) (hcut:∀ a∈gu 0 l,vE t a=true∨t≤a.1) :
  Calls prog 43 #[v,vi t] w0 (bC w0 G fun u G'=>∃ x y,u=.tuple #[x,y]∧av G' (.sl 11 ((uH t l).map ay.dat)) x∧av G' (.sl 11 ((Bq t l).map ay.dat)) y):=by
 have hml:4294967297≤maxLen:=by decide
 have hll:=BM l;have hol:=VU l 0;obtain ⟨A,hA⟩:∃ A,A=gu 0 l:=⟨_,rfl⟩;refine eN [(0,_),(1,_)] func43 rfl ntmps43 rfl rfl hG ?_;intro a H;refine cO (fun _ K1=>?_);refine fC (cs:=[_]) H wn rfl rfl rfl ?_;clear H;intro b3 a w hb3 H;refine eU gZ H wn rfl ?_;clear H;intro b4 a w hb4 H;refine eU gZ H wn rfl ?_;clear H;intro b5 a w hb5 H;refine K1 _ _ ?_;clear K1;refine kP H (SQ fun _ K2=>SR fun _ K3=>Rm rfl ?_);clear H;intro a H;refine s_call acn H wn rfl (afL _ _ H.ro l v hv (by omega)) rfl ?_;clear H;rintro v14 E8 a w ⟨bd,rfl,hit⟩ NI H;rw [← hA] at hit hcut hol;refine K3 _ _ ?_;clear K3;refine xK ?_;skip;refine RI (ι:=aj × aj × List aj × List aj × OL × OL) (κ:=Empty) (Lc:=[(_,_)]) (fun (k:Nat) (gh:aj × aj × List aj × List aj × OL × OL)=>[(b4,.cells #[gh.1] 22 (0,0)),(b5,.cells #[gh.2.1] 22 (0,0))]) (fun (k:Nat) (gh:aj × aj × List aj × List aj × OL × OL)=>gh.2.2.2.2.1++gh.2.2.2.2.2) (fun (k:Nat) (gh:aj × aj × List aj × List aj × OL × OL) (g:GH)=>dD 63 11 gh.1 (lA t (A.take k)).length gh.2.2.1 gh.2.2.2.2.1∧fH g 11 ((lA t (A.take k)).map ay.dat) gh.2.2.1∧dD 63 11 gh.2.1 (rA t (A.take k)).length gh.2.2.2.1 gh.2.2.2.2.2∧fH g 11 ((rA t (A.take k)).map ay.dat) gh.2.2.2.1) (fun x=>x.elim) (fun x=>x.elim) (fun x=>x.elim) (fun x=>x.elim) ((.slice none 0 0,.slice none 0 0,[],[],[],[])) (by exact (H.VQ (A:=[_,_,_])).dU (Pl:=[_,_,_]) (cK:=[_,_,_]) [2,1,0] (by decide) rfl) rfl Sg (hit) (fun _ _ h=>h) rfl (fun k args g h=>by obtain ⟨_,_,rfl,_⟩:=Vf h;rfl) (fun k i G G' hm h=>⟨h.1,h.2.1.mono hm,h.2.2.1,h.2.2.2.mono hm⟩) (fun x=>x.elim) (⟨dD.nil,fH.nil,dD.nil,fH.nil⟩) ?_ ?_ ?_
 ·clear H;intro l2 Bp xJ bk k args gh G2 w2 F2 B2 a hk2 hm2 hI Ny Ju UU H;obtain ⟨vl,vr,xl,xr,Ll,Lr⟩:=gh;dsimp only at hI H;obtain ⟨hk,cs,rfl,hcs⟩:=Vf hk2;obtain ⟨-,hza⟩:=VW (l:=l) (o:=0) (a:=A[k]) (by rw [← hA];exact iQ hk);have hzi:=nZ A[k].2;have hun:=PY A[k].2;have hlk:=afS t (A.take k);have JB:=ahb t (A.take k);rw [List.length_take] at hlk JB;obtain ⟨pA,pn,pc,dA,dn,dc,yA,yn,yc,fA,fn,fc,Wh,rn,rc,rfl,hh,hf,hr⟩:=hcs.item;dsimp only [vW,List.cons_append,List.nil_append] at H;obtain ⟨hrl,hcl,hrr,hcr⟩:=hI;refine kP H (SR fun _ K4=>ak K4 rfl (SC ?_));clear H K4;intro a H;refine eU dB H wn rfl ?_;clear H;intro b7 a w CO H;refine bF dB 0 (vs:=[_,_,_,_,_,_,_,_,_,_,_]) _ H wn rfl rfl rfl rfl rfl rfl rfl rfl ?_;clear H;intro w H;dsimp only [List.set,setRow] at H;refine aH ?_;refine Ny _ _ _ _ _ _ (by exact H.dU (Pl:=[_,_,_,_,_]) (cK:=[_,_,_,_,_]) [1,0,2,3,4] (by decide) rfl) ?_;clear H;intro w H;refine xK ?_;refine cO (fun _ K5=>?_);refine bD dB (cs:=[_,_,_,_,_,_,_,_,_,_,_]) H wn rfl rfl (H.hp.dY 1 rfl rfl) rfl ?_;clear H;intro a H;refine s_call Ms H wn rfl (PZ _ _ H.ro A[k].2 _ _ _ _ _ _ _ _ _ (by omega)) rfl ?_;clear H;rintro v19 _ a w ⟨rfl,rfl⟩ - H;refine kH H (Rm rfl ?_);clear H;intro a H;(iterate 2 refine lu H wn rfl rfl rfl ?_;clear H;intro a H);refine kH H (Ra rfl (ak K5 rfl (SB (SR fun _ K6=>Rm rfl (Rm rfl (Rd rfl (Ro aG 2 rfl (Rc rfl (ak K6 rfl (Cd rfl ?_ ?_)))))))))) <;> clear H K5 K6
  ·intro h50 a H
   try have p50:=dT h50
   have hfit:vE t A[k]=true:=h50;obtain ⟨e1,e2⟩:=afU hk hfit;obtain ⟨vA,vc,rfl,-,-⟩:=hrl.shape;have H:=H.perm (V8 [_,_,_,_,_] bk Ll Lr);refine RD (i0:=3) (i1:=1) hmx (by kernel_rfl) gI gZ dB rfl rfl rfl rfl rfl (by kernel_rfl) rfl (by decide) H rfl rfl rfl rfl rfl rfl hrl (by omega) (by omega) ?_;clear H;intro vl Ll uR a w uD UL H;have H:St _ _ _ _ _ _ ([_,_,_,_,_]++(bk++(Ll++Lr))) _ _ _:=H.perm (V8 [_,_,_,_,_] bk Ll Lr).symm;dsimp only [lca,aZ] at H;obtain ⟨xl,hxl⟩:∃ x,x=xl++[vi A[k].2.kind,vi A[k].2.code,vi A[k].2.id,.string A[k].2.text,.slice pA pn pc,vi A[k].2.head.marks.ins,vi A[k].2.head.marks.move,.slice dA dn dc,.slice yA yn yc,.slice fA fn fc,.slice Wh rn rc]:=⟨_,rfl⟩;rw [← hxl] at UL
   have hI:dD 63 11 vl (lA t (A.take (k+1))).length xl Ll∧fH uR 11 ((lA t (A.take (k+1))).map ay.dat) xl∧dD 63 11 vr (rA t (A.take (k+1))).length xr Lr∧fH uR 11 ((rA t (A.take (k+1))).map ay.dat) xr:=by
    rw [e1,e2,lH,nD];exact ⟨UL,by rw [hxl];exact (hcl.mono uD).snoc (hcs.mono uD) rfl,hrr,hcr.mono uD⟩
   refine Ju ((vl,vr,xl,xr,Ll,Lr)) _ _ _ _ _ (by exact H.dU (Pl:=[_,_,_,_,_]) (cK:=[_,_,_,_]) [0,2,3,4] (by decide) rfl) ?_;exact hI
  intro h50 a H
  try have p50:=dF h50
  have hfit:vE t A[k]=false:=h50;obtain ⟨e1,e2⟩:=afT hk hfit;refine kP H (SR fun _ K7=>Rm rfl (Ro aG 2 rfl (Rc rfl (ak K7 rfl (Cd rfl ?_ ?_))))) <;> clear H K7
  ·intro CB a H
   try have p62:=dT CB
   obtain ⟨vA,vc,rfl,-,-⟩:=hrr.shape;have H:=H.cast (V7 [_,_,_,_,_] bk Ll Lr);refine RD (i0:=4) (i1:=1) hmx (by kernel_rfl) gI gZ dB rfl rfl rfl rfl rfl (by kernel_rfl) rfl (by decide) H rfl rfl rfl rfl rfl rfl hrr (by omega) (by omega) ?_;clear H;intro vr Lr uR a w uD UM H;have H:St _ _ _ _ _ _ ([_,_,_,_,_]++(bk++(Ll++Lr))) _ _ _:=H.cast (V7 [_,_,_,_,_] bk Ll Lr).symm;dsimp only [lca,aZ] at H;obtain ⟨xr,JC⟩:∃ x,x=xr++[vi A[k].2.kind,vi A[k].2.code,vi A[k].2.id,.string A[k].2.text,.slice pA pn pc,vi A[k].2.head.marks.ins,vi A[k].2.head.marks.move,.slice dA dn dc,.slice yA yn yc,.slice fA fn fc,.slice Wh rn rc]:=⟨_,rfl⟩;rw [← JC] at UM
   have hI:dD 63 11 vl (lA t (A.take (k+1))).length xl Ll∧fH uR 11 ((lA t (A.take (k+1))).map ay.dat) xl∧dD 63 11 vr (rA t (A.take (k+1))).length xr Lr∧fH uR 11 ((rA t (A.take (k+1))).map ay.dat) xr:=by
    rw [e1,e2,lH,nD];exact ⟨hrl,hcl.mono uD,UM,by rw [JC];exact (hcr.mono uD).snoc (hcs.mono uD) rfl⟩
   refine Ju ((vl,vr,xl,xr,Ll,Lr)) _ _ _ _ _ (by exact H.dU (Pl:=[_,_,_,_,_]) (cK:=[_,_,_,_]) [0,2,3,4] (by decide) rfl) ?_;exact hI
  intro CB a H
  try have p62:=dF CB
  exact absurd (hcut _ (iQ hk)) (by rw [hfit];simp only [Ce,false_or];omega)
 ·clear H;intro Qf gh Qn a w hm2 hI H;obtain ⟨vl,vr,xl,xr,Ll,Lr⟩:=gh;dsimp only at hI H;dsimp only [lca,aZ] at H;obtain ⟨hrl,hcl,hrr,hcr⟩:=hI;rw [show A.take (A.map ED).length=A by rw [bT,yY]] at hrl hcl hrr hcr;obtain ⟨lA0,lc0,rfl,-,-⟩:=hrl.shape;obtain ⟨rA0,rc0,rfl,-,-⟩:=hrr.shape;refine K2 _ _ ?_;clear K2;refine bq (fun _ K8=>?_);refine dI hmx [[],[],[0],[0,1,2]] [] (by kernel_rfl) [.slice lA0 (lA t A).length lc0,.slice rA0 (rA t A).length rc0] H (aD (Z0 rfl (Ro gZ 2 rfl)) (Z0 rfl (Ro gZ 3 rfl)) ?_ ?_ bY) ?_
  ·intro bQ a w G1 _ bH hc hG HT hv;have H:=HT;clear bH;have H:=H.aQ (hv 0 72 (hc 0 (by decide)) rfl) rfl;have Hb:=H.full;have H:=Hb;clear hc;refine bF gZ 2 (vs:=[_]) _ H wn rfl rfl rfl rfl rfl rfl rfl rfl ?_;clear H;intro w H;dsimp only [List.set,setRow] at H;refine aH ⟨rfl,?_⟩;exact Sc rfl HT hG hv H
  ·intro bQ a w G1 _ bH hc hG HT hv;have H:=HT;clear bH;have H:=H.aQ (hv 1 73 (hc 1 (by decide)) rfl) rfl;have Hb:=H.full;have H:=Hb;clear hc;refine bF gZ 3 (vs:=[_]) _ H wn rfl rfl rfl rfl rfl rfl rfl rfl ?_;clear H;intro w H;dsimp only [List.set,setRow] at H;refine aH ⟨rfl,?_⟩;exact Sc rfl HT hG hv H
  clear H;intro a w G Jb H hv;clear hv;refine aH ⟨rfl,?_⟩;refine K8 _ _ ?_;clear K8;refine cu ?_;obtain ⟨DK,Bf,hgr,H⟩:=St.sV (Li:=[_,_,_,_]++Ll) (St.un (A:=[_,_,_,_]) H) hrr (rows:=(rA t A).map ay.dat) (by simp) (hcr.mono Jb);obtain ⟨KJ,wH,hgl,H⟩:=St.sV (Li:=[_,_,_,_]) H hrl (rows:=(lA t A).map ay.dat) (by simp) ((hcl.mono Jb).mono Bf);replace hgr:=hgr.mono wH;refine (GK H 0 rfl ?_).1;clear H;intro a w H;dsimp only [List.eraseIdx_cons_succ,List.eraseIdx_cons_zero] at H;refine (eT H results43 (.cons (sj gZ H rfl (H.hp.mY 1 rfl rfl)) (.cons (sj gZ H rfl (H.hp.mY 2 rfl rfl)) .nil)) ?_).1;exact H.rt ⟨_,_,rfl,by rw [uH,← hA];exact hgl,by rw [Bq,← hA];exact hgr⟩
 intro Dk x;exact x.elim
end
section
open Go.RowKit
theorem dD.ptr {e sz n c:Nat} {A:Option Addr} {xs:List aj} {Lo:OL} (h:dD e sz (.slice A n c) n xs Lo) (hn:0 < n):∃ b,A=some ⟨b,0,none⟩:=by
 rcases h.2 with ⟨_,h0,_⟩|⟨b,cap,cur,he,_⟩
 ·omega
 ·injection he with e1;exact ⟨b,e1⟩
theorem dD.at {w0 w:World} {F:Nat→Prop} {G0 G:GH} {L Lo:OL} {e sz n c b o:Nat} {xs:List aj} (h:dD e sz (.slice (some ⟨b,o,none⟩) n c) n xs Lo) (H:Hp w0 F G0 G L w) (hsub:∀ x∈Lo,x∈L) {i:Nat} {u:aj} (hi:xs[i]?=some u):w.cell? ⟨b,i,none⟩=some u:=by
 rcases h.2 with ⟨h1,_⟩|⟨b2,cap,cur,he,hl,h1,h2,h3,h4⟩
 ·cases h1
 ·injection he with e1
  injection e1 with e1
  injection e1 with e1
  subst e1
  refine H.VB (c:=cur) (e:=e) (fz:=(0,0)) (hsub _ (by rw [hl];exact List.mem_singleton_self _)) ?_
  have hx:i < xs.length:=(iX.1 hi).1
  rw [h.1] at hx
  rw [← h4,sI,au hx,Array.getElem?_toList] at hi
  exact hi
theorem flat_get {sz:Nat}:∀ {css:List (List aj)} {k:Nat} (hk:k < css.length) (h:∀ cs∈css,cs.length=sz) (j:Nat),j < sz→css.flatten[k*sz+j]?=css[k][j]?
 | c :: css,0,_,h,j,hj=>by
  rw [List.flatten_cons,Nat.zero_mul,kK,List.getElem_cons_zero,uV (by rw [h c iB];exact hj)]
 | c :: css,k+1,hk,h,j,hj=>by
  have ih:=flat_get (css:=css) (k:=k) (by simpa using hk) (fun cs hc=>h cs (jU _ hc)) j hj
  rw [List.flatten_cons,List.getElem_cons_succ,vV (by rw [h c iB,Nat.succ_mul];omega),h c iB,show (k+1)*sz+j - sz=k*sz+j by rw [Nat.succ_mul];omega]
  exact ih
theorem fH.at {G:GH} {sz:Nat} {rows:List (List Dat)} {xs:List aj} (h:fH G sz rows xs) {k:Nat} {r:List Dat} (hk:rows[k]?=some r):∃ cs,cs.length=sz∧(∀ j u,cs[j]?=some u→xs[k*sz+j]?=some u)∧aY G r cs:=by
 obtain ⟨css,rfl,h2,h3⟩:=h
 have hkl:k < css.length:=by rw [h2];exact (iX.1 hk).1
 obtain ⟨hr,hl⟩:=h3 k r css[k] hk (gP hkl)
 refine ⟨css[k],hl,fun j u hj=>?_,hr⟩
 rw [flat_get hkl (fun cs hc=>?_) j (by rw [← hl];exact (iX.1 hj).1)]
 ·exact hj
 ·obtain ⟨i,hi,rfl⟩:=List.getElem_of_mem hc
  exact (h3 i rows[i] css[i] (gP (by omega)) (gP hi)).2
end
section
open Go.RowKit
theorem aaP:∀ args w,(callFunc 104 args).run prog w=.ok (.enter 104 args) w:=enters func104 rfl (by kernel_rfl)
theorem SH:∀ args w,(callFunc 44 args).run prog w=.ok (.enter 44 args) w:=enters func44 rfl (by kernel_rfl)
theorem aco:∀ args w,(callFunc 70 args).run prog w=.ok (.enter 70 args) w:=enters func70 rfl (by kernel_rfl)
theorem acp:∀ args w,(callFunc 73 args).run prog w=.ok (.enter 73 args) w:=enters func73 rfl (by kernel_rfl)
theorem aaE (G:GH) (w0:World) (hG:Hold G w0) (A:Option Addr) (n c:Nat) (fv:aj) (hv:av G (.sl 6 []) (.slice A n c)) :
  Calls prog 70 #[.slice A n c,fv] w0 (bC w0 G fun u G'=>av G' (.sl 6 []) u):=by
 refine eN [(0,_),(1,_)] func70 rfl ntmps70 rfl rfl hG ?_;intro a H;refine kP H (SR fun _ K1=>ak K1 rfl (SR fun _ K2=>Rm rfl (Rm rfl ?_)));clear H K1;intro a H;refine s_call aaP H wn rfl (afC _ _ H.ro [] (fun _=>true) _ _ hv (fun x h=>by cases h)) rfl ?_;clear H;rintro v10 uR a w rfl uD H;refine kH H (ak K2 rfl (SQ fun _ K3=>SR fun _ K4=>Rm rfl (Rc rfl (Kz K4 (Cd rfl ?_ ?_))))) <;> clear H K2 K4
 ·intro h12 a H
  exact kP H (SR fun _ K5=>Rm rfl (ak K5 rfl (LR results70 rfl fun H=>H.rt (hv.mono uD))))
 intro h12 a H
 exact absurd h12 (by decide)
theorem agF (G:GH) (w0:World) (hG:Hold G w0) (A:Option Addr) (n c:Nat) (hv:av G (.sl 11 []) (.slice A n c)) :
  Calls prog 44 #[.slice A n c] w0 (bC w0 G fun u G'=>av G' (.sl 11 []) u):=by
 have hn:n=0:=hv.len;refine eN [(0,_)] func44 rfl ntmps44 rfl rfl hG ?_;intro a H;refine kP H (SR fun _ K1=>ak K1 rfl (SR fun _ K2=>ak K2 rfl (SQ fun _ K3=>SR fun _ K4=>Rm rfl (Rl gI rfl (Rm rfl (Kz K4 (SB ?_)))))));clear H K1 K2 K4;intro a H;skip;refine eZ (ι:=Unit) (Tc:=[(7,_),(8,_)]) (Lc:=[]) (fun gh=>[(3,.slice none 0 0),(9,vi 0)]) (fun gh=>[]) (fun gh=>G) (fun gh=>True) (fun gh=>0) (()) (by exact (H).sub ⟨rfl,rfl,rfl,rfl,aB⟩) ?_ ?_
 ·trivial
 clear H;intro gh a w hI H;obtain ⟨u,hgh⟩:∃ x,x=gh:=⟨_,rfl⟩;subst hgh;skip;dsimp only [lca,aZ] at H;refine kP H (SR fun _ K5=>Rc rfl (Kz K5 (SQ fun _ K6=>Cd rfl ?_ ?_))) <;> clear H K5
 ·intro h10 a H
  try have lg:=dT h10
  exact absurd lg (by rw [hn];decide)
 intro h10 a H
 refine dW ?_;refine K3 _ _ ?_;clear K3;exact kP H (SR fun _ K7=>Rm rfl (ak K7 rfl (LR results44 rfl fun H=>H.rt (av.jf rfl (by decide)))))
def QW (x:ay):Prop:=x.flow=[]∧x.rows=[]∧¬ x.kind=7∧(x.kind=1→¬ x.text.toList=[])
def Fu (l:List ay):Prop:=∀ (k:Nat) (h:k+1 < l.length),¬ (l[k].kind=1∧l[k+1].kind=1∧l[k].head=l[k+1].head)
theorem Fu.one {l:List ay} (h:l.length≤1):Fu l:=fun k hk=>by omega
set_option maxHeartbeats 2000000 in
theorem agG (G:GH) (w0:World) (hG:Hold G w0) (l:List ay) (v:aj) (hv:av G (.sl 11 (l.map ay.dat)) v) (hj:Fu l) (hp:∀ x∈l,QW x) (hz:bg l≤1073741824) :
  Calls prog 44 #[v] w0 (bC w0 G fun u G'=>av G' (.sl 11 (l.map ay.dat)) u):=by
 obtain ⟨A,c,rfl,hc1,hc2,hg⟩:=hv.slice
 have hml:4294967297≤maxLen:=by decide
 have hll:l.length≤bg l:=Nat.le_trans (Oy l) (PU l);rw [bT] at *;refine eN [(0,_)] func44 rfl ntmps44 rfl rfl hG ?_;intro a H;refine kP H (SR fun _ K1=>ak K1 rfl (SR fun _ K2=>ak K2 rfl (SQ fun _ K3=>SR fun _ K4=>Rm rfl (Rl gI rfl (Rm rfl (Kz K4 (SB ?_)))))));clear H K1 K2 K4;intro a H;skip;refine eZ (ι:=Nat × aj × List aj × OL × GH) (Tc:=[(7,_),(8,_)]) (Lc:=[]) (fun gh=>[(3,gh.2.1),(9,vi gh.1)]) (fun gh=>[]++gh.2.2.2.1) (fun gh=>gh.2.2.2.2) (fun gh=>gh.1≤l.length∧dD 63 11 gh.2.1 gh.1 gh.2.2.1 gh.2.2.2.1∧fH gh.2.2.2.2 11 ((l.map ay.dat).take gh.1) gh.2.2.1∧(∀ b o,G b=some o→gh.2.2.2.2 b=some o)) (fun gh=>l.length - gh.1) ((0,.slice none 0 0,[],[],G)) (by exact (H).sub ⟨rfl,rfl,rfl,rfl,aB⟩) ?_ ?_
 ·exact ⟨by omega,dD.nil,by simpa using fH.nil,fun _ _ h=>h⟩
 clear H;intro gh a w hI H;obtain ⟨k,v,xs,Lo,g⟩:=gh;dsimp only at hI H;obtain ⟨hk,hrw,ji,hgm⟩:=hI;dsimp only [lca,aZ] at H;refine kP H (SR fun _ K5=>Rc rfl (Kz K5 (SQ fun _ K6=>Cd rfl ?_ ?_))) <;> clear H K5
 ·intro h10 a H
  try have lg:=dT h10
  have hk2:k < l.length:=by omega
  obtain ⟨vA,vc,rfl,-,-⟩:=hrw.shape;obtain ⟨b,o,pA,pn,pc,dA,dn,dc,yA,yn,yc,fA,fn,fc,rA,rn,rc,rfl,hrow,hhd,hfl,hrs⟩:=zw hk2 hg;replace hrow:=fun j u hj=>aK hgm (hrow j u hj);obtain ⟨e1,e2,e3,e4⟩:=hp _ (iQ hk2);have hzi:=XR hk2;rw [e1] at hfl;rw [e2] at hrs;refine kP H (Kc K6 (SQ fun _ K7=>SB (SR fun _ K8=>Ri gI dB rfl rfl ?_)));clear H K6;intro a H;refine bD dB (cs:=[_,_,_,_,_,_,_,_,_,_,_]) H wn rfl rfl (fun j v hj=>H.hp.aJ (hrow j v hj)) rfl ?_;clear H;intro a H;refine eU dB H wn rfl ?_;clear H;intro b5 a w hb5 H;refine bF dB 0 (vs:=[_,_,_,_,_,_,_,_,_,_,_]) _ H wn rfl rfl rfl rfl rfl rfl rfl rfl ?_;clear H;intro w H;dsimp only [List.set,setRow] at H;refine K8 _ _ ?_;clear K8;refine kP H (SR fun _ K9=>Rf AL rfl ?_);clear H;intro a H;refine bD pQ (cs:=[_,_,_,_,_]) H wn rfl rfl (H.hp.dY 0 rfl rfl) rfl ?_;clear H;intro a H;refine s_call IV H wn rfl (IL _ _ H.ro _ _ _ _ _ _ _ _ _ _ (hhd.mono hgm) (by omega)) rfl ?_;clear H;rintro v15 BP a w ⟨rX,d15,l15,rfl,Et⟩ qL H;obtain ⟨a1,a2,a3,rfl⟩:=Et.props.form;obtain ⟨a4,a5,a6,rfl⟩:=Et.bZ.form;obtain ⟨a7,a8,a9,rfl⟩:=Et.layers.form;refine kH H (Rf AL rfl ?_);clear H;intro a H;refine bF pQ 0 (vs:=[_,_,_,_,_]) _ H wn rfl rfl rfl rfl rfl rfl rfl rfl ?_;clear H;intro w H;dsimp only [List.set,setRow] at H;refine K9 _ _ ?_;clear K9;refine kP H (SR fun _ aS=>aR xR gZ 0 rfl rfl ?_);clear H;intro a H;refine s_call SH H wn rfl (agF _ _ H.ro _ _ _ (hfl.mono fun b o h=>qL b o (hgm b o h))) rfl ?_;clear H;rintro v19 G19 a w NV rU H;obtain ⟨H7,n19,c19,rfl⟩:=NV.form;refine kH H (Rf xR rfl ?_);clear H;intro a H;refine bF gZ 0 (vs:=[_]) _ H wn rfl rfl rfl rfl rfl rfl rfl rfl ?_;clear H;intro w H;dsimp only [List.set,setRow] at H;refine aS _ _ ?_;clear aS;refine kP H (SR fun _ bA=>aR qg qz 0 rfl rfl ?_);clear H;intro a H;refine s_call SK H wn rfl (Sd _ _ H.ro [] _ _ (hrs.mono fun b o h=>rU b o (qL b o (hgm b o h))) (by decide) (fun x h=>by cases h)) rfl ?_;clear H;rintro v23 KL a w UF pI H;obtain ⟨A23,n23,c23,rfl⟩:=UF.form;refine s_call aco H wn rfl (aaE _ _ H.ro _ _ _ _ UF) rfl ?_;clear H;rintro v24 Ig a w NW qN H;obtain ⟨Qc,n24,c24,rfl⟩:=NW.form;refine kH H (Rf qg rfl ?_);clear H;intro a H;refine bF qz 0 (vs:=[_]) _ H wn rfl rfl rfl rfl rfl rfl rfl rfl ?_;clear H;intro w H;dsimp only [List.set,setRow] at H;refine bA _ _ ?_;clear bA;refine kP H (SR fun _ bK=>Rm rfl (Rl gI rfl (ak bK rfl (SB (SR fun _ bR=>aR jh aG 0 rfl rfl (Rc rfl (Rm rfl (Sp 36 rfl ?_ ?_)))))))) <;> clear H bK
  ·intro uw a H
   try have p36:=dT uw
   exact absurd p36 e3
  intro uw a H
  try have p36:=dF uw
  refine kH H (aP uw rfl (aP uw rfl (Pf uw rfl (Rm rfl ?_))));clear H;intro a H;refine GY jh H (wg H rfl rfl rfl) rfl rfl ?_;clear H;intro a H;refine uM aG H (wg H rfl rfl rfl) rfl (H.hp.mY 0 rfl rfl) rfl ?_;clear H;intro a H;refine GX H (wg H rfl rfl rfl) rfl rfl rfl rfl ?_;clear H;intro a H;refine GZ H (wg H rfl rfl rfl) rfl rfl ?_;clear H;intro a H;refine Pq H 46 rfl ?_ ?_
  ·intro h46
   try have p46:=dT h46
   refine kH H (YF sS h46 rfl (YO fZ 0 h46 rfl ?_));clear H;intro a H;refine Bt H (wg H rfl rfl h46) rfl rfl rfl ?_;clear H;intro a H;refine He H (wg H rfl rfl rfl) rfl h46 rfl rfl ?_;clear H;intro a H;refine kH H (Pf rfl rfl (ak bR rfl (Cd rfl ?_ ?_))) <;> clear H bR
   ·intro h32 a H
    exact absurd h32 (by simpa using e4 p46)
   intro h32 a H
   try have p32:=dF h32
   refine bq (fun _ bP=>?_);obtain ⟨vZ,rT⟩:∃ x,x=[vi l[k].kind,vi l[k].code,vi l[k].id,.string l[k].text,.slice a1 a2 a3,vi l[k].head.marks.ins,vi l[k].head.marks.move,.slice a4 a5 a6,.slice a7 a8 a9,.slice H7 n19 c19,.slice Qc n24 c24]:=⟨_,rfl⟩
   have zQ:aY Ig l[k].dat vZ:=by
    rw [rT];exact aY.mkItem (Et.mono fun b o h=>qN b o (pI b o (rU b o h))) (by rw [e1];exact NV.mono fun b o h=>qN b o (pI b o h)) (by rw [e2];exact NW)
   have hA1:(l.map ay.dat).take (k+1)=(l.map ay.dat).take k++[l[k].dat]:=by rw [jE (by simpa using hk2)];simp
   have NA:=ji.mono fun b o h=>qN b o (pI b o (rU b o (qL b o h)))
   obtain ⟨bo,pk,pp,pd,pl,xZ⟩:∃ (bo:Nat) (pk:ig × Int) (pp pd pl:aj),0 < (k:Int)→∃ (h:k - 1 < l.length),vA=some ⟨bo,0,none⟩∧pk=(l[k - 1].head,l[k - 1].kind)∧xs[(k - 1)*11]?=some (vi pk.2)∧jl Ig pk.1 pp pd pl∧∀ j u,[pp,vi pk.1.marks.ins,vi pk.1.marks.move,pd,pl][j]?=some u→xs[(k - 1)*11+4+j]?=some u:=by
    by_cases h0:0 < k
    ·obtain ⟨bo,Nz⟩:=hrw.ptr h0;obtain ⟨cs,hcl,hcx,hcr⟩:=NA.at (k:=k - 1) (r:=l[k - 1].dat) (by rw [sI,au (by omega)];simp [show k - 1 < l.length by omega]);obtain ⟨qA,qn,qc,sA,sn,sc,tA,tn,tc,fA2,fn2,fc2,rA2,rn2,rc2,rfl,hh,-,-⟩:=hcr.item;refine ⟨bo,(l[k - 1].head,l[k - 1].kind),.slice qA qn qc,.slice sA sn sc,.slice tA tn tc,fun _=>⟨by omega,Nz,rfl,hcx 0 _ rfl,hh,fun j u hj=>?_⟩⟩;rw [Nat.add_assoc]
     exact hcx (4+j) u (by
      match j,hj with
      | 0,hj=>exact hj
      | 1,hj=>exact hj
      | 2,hj=>exact hj
      | 3,hj=>exact hj
      | 4,hj=>exact hj)
    exact ⟨0,(⟨[],⟨0,0,[],[]⟩⟩,0),.slice none 0 0,.slice none 0 0,.slice none 0 0,fun h=>by omega⟩
   have UD:l[k].kind=1→0 < (k:Int)→pk.2=1→¬ pk.1=l[k].head:=by
    intro c1 c2 c3 e;obtain ⟨hk1,-,hpk,-⟩:=xZ c2;have hjk:=hj (k - 1) (by omega);rw [hpk] at e c3
    simp only [show k - 1+1=k by omega] at hjk
    exact hjk ⟨c3,c1,e⟩
   have c1:l[k].kind=1:=p46
   by_cases c2:0 < (k:Int)
   ·skip
    by_cases c3:pk.2=1
    ·skip;refine dI hmx [[],[0],[0,1],[0,1,2],(ra 0 4),(ra 0 5),(ra 0 6),(ra 0 7),(ra 0 8),(ra 0 8),(ra 0 8++[9]),(ra 0 11),(ra 0 12),(ra 0 13),(ra 0 14),(ra 0 15),(ra 0 16),(ra 0 17),(ra 0 17),(ra 0 17++[18]),(ra 0 20),(ra 0 21),(ra 0 22),(ra 0 17),(ra 0 17++[23]),(ra 0 25),(ra 0 26),(ra 0 27)] [] (by kernel_rfl) [_,vi l[k].kind,_,_,_,_,_,_,.slice (some ⟨bo,0,none⟩) k vc,_,vi ((k - 1:Nat):Int),_,_,vi pk.2,_,_,_,.slice (some ⟨bo,0,none⟩) k vc,_,vi ((k - 1:Nat):Int),_,_,xX pk.1 pp pd pl,_,xX l[k].head (.slice a1 a2 a3) (.slice a4 a5 a6) (.slice a7 a8 a9),.bool false,_,_] H (aD (Z0 rfl (Rf jh rfl)) (Z1 0 53 rfl (Ro aG 0 rfl)) (Z1 1 54 rfl (Rc rfl)) (Z1 2 55 rfl (Rm rfl)) (aD (Z1 3 56 rfl (YM (aC c1) rfl)) (Z2 4 57 3 56 rfl (YC (aC c1) rfl)) (Z2 3 56 5 58 rfl (Pt (aC c1) rfl)) (Z1 6 59 rfl (Rm rfl)) (aD ?_ (Z1 7 60 rfl (YM (aC c2) rfl)) ?_ (Z3 8 61 10 63 7 60 rfl (YI gI dB (aC c2) rfl rfl)) (aD (Z2 11 64 7 60 rfl (YF jh (aC c2) rfl)) ?_ (Z2 13 66 7 60 rfl (YC (aC c2) rfl)) (Z2 7 60 14 67 rfl (Pt (aC c2) rfl)) (aD (Z1 15 68 rfl (Rm rfl)) ?_ (Z1 16 69 rfl (YM (aC c3) rfl)) ?_ (aD (Z3 17 70 19 72 16 69 rfl (YI gI dB (aC c3) rfl rfl)) (Z2 20 73 16 69 rfl (YF AL (aC c3) rfl)) ?_ (Z1 16 69 rfl (YF AL (aC c3) rfl)) (aD ?_ ?_ (Z2 16 69 25 78 rfl (Pt (aC c3) rfl)) (Z1 26 79 rfl (Ra rfl)) bY))))))) ?_
     ·refine dL 7 60 rfl rfl fun _ a w G1 hG HT H fin=>?_;refine kH H (YM (aC c2) rfl ?_);clear H;intro a H;exact fin H iJ (by show _=_;first|rfl|exact aA (fun A=>Value.slice A k vc) (Exists.elim (xZ c2) fun _ h=>h.1))
     ·refine dz 9 62 7 60 rfl rfl fun _ a w G1 hG HT H fin=>?_;refine mF _ H (wg H rfl rfl (aC c2)) rfl rfl rfl (by omega) (by omega) rfl ?_;clear H;intro a H;exact fin H iJ (by show _=_;first|rfl|exact aA vi (by omega))
     ·refine dz 12 65 7 60 rfl rfl fun _ a w G1 hG HT H fin=>?_;obtain ⟨_,rfl,_,hkd,_⟩:=xZ c2;refine uM aG H (wg H rfl rfl (aC c2)) rfl (hrw.at H.hp (fun x hx=>jU _ hx) (by rw [kK];exact hkd)) rfl ?_;clear H;intro a H;exact fin H iJ rfl
     ·refine dL 16 69 rfl rfl fun _ a w G1 hG HT H fin=>?_;refine kH H (YM (aC c3) rfl ?_);clear H;intro a H;exact fin H iJ (by show _=_;first|rfl|exact aA (fun A=>Value.slice A k vc) (Exists.elim (xZ c2) fun _ h=>h.1))
     ·refine dz 18 71 16 69 rfl rfl fun _ a w G1 hG HT H fin=>?_;refine mF _ H (wg H rfl rfl (aC c3)) rfl rfl rfl (by omega) (by omega) rfl ?_;clear H;intro a H;exact fin H iJ (by show _=_;first|rfl|exact aA vi (by omega))
     ·refine dz 21 74 16 69 rfl rfl fun _ a w G1 hG HT H fin=>?_;obtain ⟨_,rfl,_,_,_,hhx⟩:=xZ c2;refine bD pQ (cs:=[pp,vi pk.1.marks.ins,vi pk.1.marks.move,pd,pl]) H (wg H rfl rfl (aC c3)) rfl rfl (fun j u hj=>hrw.at H.hp (fun x hx=>jU _ hx) (by rw [kK];exact hhx j u hj)) rfl ?_;clear H;intro a H;exact fin H iJ rfl
     ·refine dz 23 76 16 69 rfl rfl fun _ a w G1 hG HT H fin=>?_;refine bD pQ (cs:=[_,_,_,_,_]) H (wg H rfl rfl (aC c3)) rfl rfl (H.hp.dY 0 rfl rfl) rfl ?_;clear H;intro a H;exact fin H iJ rfl
     ·refine qF 22 75 24 77 16 69 rfl rfl fun _ a w G1 hG HT H fin=>?_;refine s_call acp H (wg H rfl rfl (aC c3)) rfl (acM _ _ H.ro pk.1 l[k].head _ _ _ _ _ _ (by obtain ⟨_,_,_,_,hh,_⟩:=xZ c2;exact hh.mono hG) (Et.mono fun b o h=>hG b o (qN b o (pI b o (rU b o h))))) rfl ?_;clear H;rintro v78 G78 a w rfl adW H;exact fin H adW (by show _=_;first|rfl|exact aF (jm (UD c1 c2 c3)))
     clear H;intro a w G jH H hv;have H:=H.aQ (hv 27 52 rfl rfl) rfl;clear hv;refine aH ⟨rfl,?_⟩;refine bP _ _ ?_;clear bP;refine kW H rfl rfl ?_;refine kP H (SC (Rm rfl ?_));clear H;intro a H;refine bD dB (cs:=[_,_,_,_,_,_,_,_,_,_,_]) H wn rfl rfl (H.hp.dY 0 rfl rfl) rfl ?_;clear H;intro a H;refine gQ gI dB [_,_,_,_,_,_,_,_,_,_,_] [_,_,_,_,_,_,_,_,_,_,_] H wn rfl rfl rfl rfl rfl (by intro i q h;match i,h with|0,h=>exact h|n+1,h=>simp at h) rfl rfl ?_;clear H;intro Ls a w Nu H;refine oL (Li:=[_,_]) (Lo:=Lo) (news:=vZ) gI dB rfl rfl H wn rfl rfl hrw (by rw [rT];rfl) (by rw [rT];exact H.hp.dY 0 rfl rfl) zQ.one (by omega) (by omega) rfl ?_;clear H;intro v31 Ca a w CW H;refine kH H (aV K7 rfl (SC (Rd rfl (Rm rfl ?_))));clear H K7;intro a H;refine aH ?_;refine dw ((k+1,v31,xs++vZ,Ca,G)) (by exact (H.dU (Pl:=[_,_]) (cK:=[]) [] (by decide) rfl).sub ⟨rfl,rfl,rfl,rfl,aB⟩) ?_ ?_
     ·(try dsimp only);exact ⟨by omega,CW,by rw [hA1];exact (ji.mono (fun b o h=>jH b o (qN b o (pI b o (rU b o (qL b o h)))))).snoc (zQ.mono jH) (by rw [rT];rfl),fun b o h=>jH b o (qN b o (pI b o (rU b o (qL b o (hgm b o h)))))⟩
     first|omega|(dsimp only;omega)
    skip;refine dI hmx [[],[0],[0,1],[0,1,2],(ra 0 4),(ra 0 5),(ra 0 6),(ra 0 7),(ra 0 8),(ra 0 8),(ra 0 8++[9]),(ra 0 11),(ra 0 12),(ra 0 13),(ra 0 14),(ra 0 15),(ra 0 16),(ra 0 17),(ra 0 17),(ra 0 17++[18]),(ra 0 20),(ra 0 21),(ra 0 22),(ra 0 17),(ra 0 17++[23]),(ra 0 25),(ra 0 26),(ra 0 27)] [] (by kernel_rfl) [_,vi l[k].kind,_,_,_,_,_,_,.slice (some ⟨bo,0,none⟩) k vc,_,vi ((k - 1:Nat):Int),_,_,vi pk.2,_,_,_,undef,undef,undef,undef,undef,undef,undef,undef,undef,_,_] H (aD (Z0 rfl (Rf jh rfl)) (Z1 0 53 rfl (Ro aG 0 rfl)) (Z1 1 54 rfl (Rc rfl)) (Z1 2 55 rfl (Rm rfl)) (aD (Z1 3 56 rfl (YM (aC c1) rfl)) (Z2 4 57 3 56 rfl (YC (aC c1) rfl)) (Z2 3 56 5 58 rfl (Pt (aC c1) rfl)) (Z1 6 59 rfl (Rm rfl)) (aD ?_ (Z1 7 60 rfl (YM (aC c2) rfl)) ?_ (Z3 8 61 10 63 7 60 rfl (YI gI dB (aC c2) rfl rfl)) (aD (Z2 11 64 7 60 rfl (YF jh (aC c2) rfl)) ?_ (Z2 13 66 7 60 rfl (YC (aC c2) rfl)) (Z2 7 60 14 67 rfl (Pt (aC c2) rfl)) (aD (Z1 15 68 rfl (Rm rfl)) (aL (j:=16) (by kernel_rfl) (fun _ _ _ _ _ h=>h) rfl rfl rfl rfl rfl (fun _ _ h=>aN h (aF (aO c3))) rfl (fun _=>rfl)) (aL (j:=16) (by kernel_rfl) (fun _ _ _ _ _ h=>h) rfl rfl rfl rfl rfl (fun _ _ h=>aN h (aF (aO c3))) rfl (fun _=>rfl)) (aL (j:=16) (by kernel_rfl) (fun _ _ _ _ _ h=>h) rfl rfl rfl rfl rfl (fun _ _ h=>aN h (aF (aO c3))) rfl (fun _=>rfl)) (aD (aL (j:=16) (by kernel_rfl) (fun _ _ _ _ _ h=>h) rfl rfl rfl rfl rfl (fun _ _ h=>aN h (aF (aO c3))) rfl (fun _=>rfl)) (aL (j:=16) (by kernel_rfl) (fun _ _ _ _ _ h=>h) rfl rfl rfl rfl rfl (fun _ _ h=>aN h (aF (aO c3))) rfl (fun _=>rfl)) (aL (j:=16) (by kernel_rfl) (fun _ _ _ _ _ h=>h) rfl rfl rfl rfl rfl (fun _ _ h=>aN h (aF (aO c3))) rfl (fun _=>rfl)) (aL (j:=16) (by kernel_rfl) (fun _ _ _ _ _ h=>h) rfl rfl rfl rfl rfl (fun _ _ h=>aN h (aF (aO c3))) rfl (fun _=>rfl)) (aD (aL (j:=16) (by kernel_rfl) (fun _ _ _ _ _ h=>h) rfl rfl rfl rfl rfl (fun _ _ h=>aN h (aF (aO c3))) rfl (fun _=>rfl)) (aL (j:=16) (by kernel_rfl) (fun _ _ _ _ _ h=>h) rfl rfl rfl rfl rfl (fun _ _ h=>aN h (aF (aO c3))) rfl (fun _=>rfl)) (Z2 16 69 25 78 rfl (Pf (aO c3) rfl)) (Z1 26 79 rfl (Ra rfl)) bY))))))) ?_
    ·refine dL 7 60 rfl rfl fun _ a w G1 hG HT H fin=>?_;refine kH H (YM (aC c2) rfl ?_);clear H;intro a H;exact fin H iJ (by show _=_;first|rfl|exact aA (fun A=>Value.slice A k vc) (Exists.elim (xZ c2) fun _ h=>h.1))
    ·refine dz 9 62 7 60 rfl rfl fun _ a w G1 hG HT H fin=>?_;refine mF _ H (wg H rfl rfl (aC c2)) rfl rfl rfl (by omega) (by omega) rfl ?_;clear H;intro a H;exact fin H iJ (by show _=_;first|rfl|exact aA vi (by omega))
    ·refine dz 12 65 7 60 rfl rfl fun _ a w G1 hG HT H fin=>?_;obtain ⟨_,rfl,_,hkd,_⟩:=xZ c2;refine uM aG H (wg H rfl rfl (aC c2)) rfl (hrw.at H.hp (fun x hx=>jU _ hx) (by rw [kK];exact hkd)) rfl ?_;clear H;intro a H;exact fin H iJ rfl
    clear H;intro a w G jH H hv;have H:=H.aQ (hv 27 52 rfl rfl) rfl;clear hv;refine aH ⟨rfl,?_⟩;refine bP _ _ ?_;clear bP;refine kW H rfl rfl ?_;refine kP H (SC (Rm rfl ?_));clear H;intro a H;refine bD dB (cs:=[_,_,_,_,_,_,_,_,_,_,_]) H wn rfl rfl (H.hp.dY 0 rfl rfl) rfl ?_;clear H;intro a H;refine gQ gI dB [_,_,_,_,_,_,_,_,_,_,_] [_,_,_,_,_,_,_,_,_,_,_] H wn rfl rfl rfl rfl rfl (by intro i q h;match i,h with|0,h=>exact h|n+1,h=>simp at h) rfl rfl ?_;clear H;intro Ls a w Nu H;refine oL (Li:=[_,_]) (Lo:=Lo) (news:=vZ) gI dB rfl rfl H wn rfl rfl hrw (by rw [rT];rfl) (by rw [rT];exact H.hp.dY 0 rfl rfl) zQ.one (by omega) (by omega) rfl ?_;clear H;intro v31 Ca a w CW H;refine kH H (aV K7 rfl (SC (Rd rfl (Rm rfl ?_))));clear H K7;intro a H;refine aH ?_;refine dw ((k+1,v31,xs++vZ,Ca,G)) (by exact (H.dU (Pl:=[_,_]) (cK:=[]) [] (by decide) rfl).sub ⟨rfl,rfl,rfl,rfl,aB⟩) ?_ ?_
    ·(try dsimp only);exact ⟨by omega,CW,by rw [hA1];exact (ji.mono (fun b o h=>jH b o (qN b o (pI b o (rU b o (qL b o h)))))).snoc (zQ.mono jH) (by rw [rT];rfl),fun b o h=>jH b o (qN b o (pI b o (rU b o (qL b o (hgm b o h)))))⟩
    first|omega|(dsimp only;omega)
   skip;refine dI hmx [[],[0],[0,1],[0,1,2],(ra 0 4),(ra 0 5),(ra 0 6),(ra 0 7),(ra 0 8),(ra 0 8),(ra 0 8++[9]),(ra 0 11),(ra 0 12),(ra 0 13),(ra 0 14),(ra 0 15),(ra 0 16),(ra 0 17),(ra 0 17),(ra 0 17++[18]),(ra 0 20),(ra 0 21),(ra 0 22),(ra 0 17),(ra 0 17++[23]),(ra 0 25),(ra 0 26),(ra 0 27)] [] (by kernel_rfl) [_,vi l[k].kind,_,_,_,_,_,_,undef,undef,undef,undef,undef,undef,undef,_,_,undef,undef,undef,undef,undef,undef,undef,undef,undef,_,_] H (aD (Z0 rfl (Rf jh rfl)) (Z1 0 53 rfl (Ro aG 0 rfl)) (Z1 1 54 rfl (Rc rfl)) (Z1 2 55 rfl (Rm rfl)) (aD (Z1 3 56 rfl (YM (aC c1) rfl)) (Z2 4 57 3 56 rfl (YC (aC c1) rfl)) (Z2 3 56 5 58 rfl (Pt (aC c1) rfl)) (Z1 6 59 rfl (Rm rfl)) (aD (aL (j:=7) (by kernel_rfl) (fun _ _ _ _ _ h=>h) rfl rfl rfl rfl rfl (fun _ _ h=>aN h (aF (aO c2))) rfl (fun _=>rfl)) (aL (j:=7) (by kernel_rfl) (fun _ _ _ _ _ h=>h) rfl rfl rfl rfl rfl (fun _ _ h=>aN h (aF (aO c2))) rfl (fun _=>rfl)) (aL (j:=7) (by kernel_rfl) (fun _ _ _ _ _ h=>h) rfl rfl rfl rfl rfl (fun _ _ h=>aN h (aF (aO c2))) rfl (fun _=>rfl)) (aL (j:=7) (by kernel_rfl) (fun _ _ _ _ _ h=>h) rfl rfl rfl rfl rfl (fun _ _ h=>aN h (aF (aO c2))) rfl (fun _=>rfl)) (aD (aL (j:=7) (by kernel_rfl) (fun _ _ _ _ _ h=>h) rfl rfl rfl rfl rfl (fun _ _ h=>aN h (aF (aO c2))) rfl (fun _=>rfl)) (aL (j:=7) (by kernel_rfl) (fun _ _ _ _ _ h=>h) rfl rfl rfl rfl rfl (fun _ _ h=>aN h (aF (aO c2))) rfl (fun _=>rfl)) (aL (j:=7) (by kernel_rfl) (fun _ _ _ _ _ h=>h) rfl rfl rfl rfl rfl (fun _ _ h=>aN h (aF (aO c2))) rfl (fun _=>rfl)) (Z2 7 60 14 67 rfl (Pf (aO c2) rfl)) (aD (Z1 15 68 rfl (Rm rfl)) (aL (j:=16) (by kernel_rfl) (fun _ _ _ _ _ h=>h) rfl rfl rfl rfl rfl (fun _ _ h=>aN h (aF rfl)) rfl (fun _=>rfl)) (aL (j:=16) (by kernel_rfl) (fun _ _ _ _ _ h=>h) rfl rfl rfl rfl rfl (fun _ _ h=>aN h (aF rfl)) rfl (fun _=>rfl)) (aL (j:=16) (by kernel_rfl) (fun _ _ _ _ _ h=>h) rfl rfl rfl rfl rfl (fun _ _ h=>aN h (aF rfl)) rfl (fun _=>rfl)) (aD (aL (j:=16) (by kernel_rfl) (fun _ _ _ _ _ h=>h) rfl rfl rfl rfl rfl (fun _ _ h=>aN h (aF rfl)) rfl (fun _=>rfl)) (aL (j:=16) (by kernel_rfl) (fun _ _ _ _ _ h=>h) rfl rfl rfl rfl rfl (fun _ _ h=>aN h (aF rfl)) rfl (fun _=>rfl)) (aL (j:=16) (by kernel_rfl) (fun _ _ _ _ _ h=>h) rfl rfl rfl rfl rfl (fun _ _ h=>aN h (aF rfl)) rfl (fun _=>rfl)) (aL (j:=16) (by kernel_rfl) (fun _ _ _ _ _ h=>h) rfl rfl rfl rfl rfl (fun _ _ h=>aN h (aF rfl)) rfl (fun _=>rfl)) (aD (aL (j:=16) (by kernel_rfl) (fun _ _ _ _ _ h=>h) rfl rfl rfl rfl rfl (fun _ _ h=>aN h (aF rfl)) rfl (fun _=>rfl)) (aL (j:=16) (by kernel_rfl) (fun _ _ _ _ _ h=>h) rfl rfl rfl rfl rfl (fun _ _ h=>aN h (aF rfl)) rfl (fun _=>rfl)) (Z2 16 69 25 78 rfl (Pf rfl rfl)) (Z1 26 79 rfl (Ra rfl)) bY))))))) ?_
   clear H;intro a w G jH H hv;have H:=H.aQ (hv 27 52 rfl rfl) rfl;clear hv;refine aH ⟨rfl,?_⟩;refine bP _ _ ?_;clear bP;refine kW H rfl rfl ?_;refine kP H (SC (Rm rfl ?_));clear H;intro a H;refine bD dB (cs:=[_,_,_,_,_,_,_,_,_,_,_]) H wn rfl rfl (H.hp.dY 0 rfl rfl) rfl ?_;clear H;intro a H;refine gQ gI dB [_,_,_,_,_,_,_,_,_,_,_] [_,_,_,_,_,_,_,_,_,_,_] H wn rfl rfl rfl rfl rfl (by intro i q h;match i,h with|0,h=>exact h|n+1,h=>simp at h) rfl rfl ?_;clear H;intro Ls a w Nu H;refine oL (Li:=[_,_]) (Lo:=Lo) (news:=vZ) gI dB rfl rfl H wn rfl rfl hrw (by rw [rT];rfl) (by rw [rT];exact H.hp.dY 0 rfl rfl) zQ.one (by omega) (by omega) rfl ?_;clear H;intro v31 Ca a w CW H;refine kH H (aV K7 rfl (SC (Rd rfl (Rm rfl ?_))));clear H K7;intro a H;refine aH ?_;refine dw ((k+1,v31,xs++vZ,Ca,G)) (by exact (H.dU (Pl:=[_,_]) (cK:=[]) [] (by decide) rfl).sub ⟨rfl,rfl,rfl,rfl,aB⟩) ?_ ?_
   ·(try dsimp only);exact ⟨by omega,CW,by rw [hA1];exact (ji.mono (fun b o h=>jH b o (qN b o (pI b o (rU b o (qL b o h)))))).snoc (zQ.mono jH) (by rw [rT];rfl),fun b o h=>jH b o (qN b o (pI b o (rU b o (qL b o (hgm b o h)))))⟩
   first|omega|(dsimp only;omega)
  intro h46
  try have p46:=dF h46
  refine kH H (aX h46 rfl ?_);clear H;intro a H;refine J9 H (wg H rfl rfl rfl) rfl h46 rfl rfl ?_;clear H;intro a H;refine kH H (Pf rfl rfl (ak bR rfl (Cf rfl rfl (SQ fun _ dJ=>?_))));clear H bR;intro a H;obtain ⟨vZ,rT⟩:∃ x,x=[vi l[k].kind,vi l[k].code,vi l[k].id,.string l[k].text,.slice a1 a2 a3,vi l[k].head.marks.ins,vi l[k].head.marks.move,.slice a4 a5 a6,.slice a7 a8 a9,.slice H7 n19 c19,.slice Qc n24 c24]:=⟨_,rfl⟩
  have zQ:aY Ig l[k].dat vZ:=by
   rw [rT];exact aY.mkItem (Et.mono fun b o h=>qN b o (pI b o (rU b o h))) (by rw [e1];exact NV.mono fun b o h=>qN b o (pI b o h)) (by rw [e2];exact NW)
  have hA1:(l.map ay.dat).take (k+1)=(l.map ay.dat).take k++[l[k].dat]:=by rw [jE (by simpa using hk2)];simp
  have NA:=ji.mono fun b o h=>qN b o (pI b o (rU b o (qL b o h)))
  obtain ⟨bo,pk,pp,pd,pl,xZ⟩:∃ (bo:Nat) (pk:ig × Int) (pp pd pl:aj),0 < (k:Int)→∃ (h:k - 1 < l.length),vA=some ⟨bo,0,none⟩∧pk=(l[k - 1].head,l[k - 1].kind)∧xs[(k - 1)*11]?=some (vi pk.2)∧jl Ig pk.1 pp pd pl∧∀ j u,[pp,vi pk.1.marks.ins,vi pk.1.marks.move,pd,pl][j]?=some u→xs[(k - 1)*11+4+j]?=some u:=by
   by_cases h0:0 < k
   ·obtain ⟨bo,Nz⟩:=hrw.ptr h0;obtain ⟨cs,hcl,hcx,hcr⟩:=NA.at (k:=k - 1) (r:=l[k - 1].dat) (by rw [sI,au (by omega)];simp [show k - 1 < l.length by omega]);obtain ⟨qA,qn,qc,sA,sn,sc,tA,tn,tc,fA2,fn2,fc2,rA2,rn2,rc2,rfl,hh,-,-⟩:=hcr.item;refine ⟨bo,(l[k - 1].head,l[k - 1].kind),.slice qA qn qc,.slice sA sn sc,.slice tA tn tc,fun _=>⟨by omega,Nz,rfl,hcx 0 _ rfl,hh,fun j u hj=>?_⟩⟩;rw [Nat.add_assoc]
    exact hcx (4+j) u (by
     match j,hj with
     | 0,hj=>exact hj
     | 1,hj=>exact hj
     | 2,hj=>exact hj
     | 3,hj=>exact hj
     | 4,hj=>exact hj)
   exact ⟨0,(⟨[],⟨0,0,[],[]⟩⟩,0),.slice none 0 0,.slice none 0 0,.slice none 0 0,fun h=>by omega⟩
  have UD:l[k].kind=1→0 < (k:Int)→pk.2=1→¬ pk.1=l[k].head:=by
   intro c1 c2 c3 e;obtain ⟨hk1,-,hpk,-⟩:=xZ c2;have hjk:=hj (k - 1) (by omega);rw [hpk] at e c3
   simp only [show k - 1+1=k by omega] at hjk
   exact hjk ⟨c3,c1,e⟩
  have c1:¬ (l[k].kind=1):=p46;refine dI hmx [[],[0],[0,1],[0,1,2],(ra 0 4),(ra 0 5),(ra 0 6),(ra 0 7),(ra 0 8),(ra 0 8),(ra 0 8++[9]),(ra 0 11),(ra 0 12),(ra 0 13),(ra 0 14),(ra 0 15),(ra 0 16),(ra 0 17),(ra 0 17),(ra 0 17++[18]),(ra 0 20),(ra 0 21),(ra 0 22),(ra 0 17),(ra 0 17++[23]),(ra 0 25),(ra 0 26),(ra 0 27)] [] (by kernel_rfl) [_,vi l[k].kind,_,_,undef,undef,_,_,undef,undef,undef,undef,undef,undef,undef,_,_,undef,undef,undef,undef,undef,undef,undef,undef,undef,_,_] H (aD (Z0 rfl (Rf jh rfl)) (Z1 0 53 rfl (Ro aG 0 rfl)) (Z1 1 54 rfl (Rc rfl)) (Z1 2 55 rfl (Rm rfl)) (aD (aL (j:=3) (by kernel_rfl) (fun _ _ _ _ _ h=>h) rfl rfl rfl rfl rfl (fun _ _ h=>aN h (aF (aO c1))) rfl (fun _=>rfl)) (aL (j:=3) (by kernel_rfl) (fun _ _ _ _ _ h=>h) rfl rfl rfl rfl rfl (fun _ _ h=>aN h (aF (aO c1))) rfl (fun _=>rfl)) (Z2 3 56 5 58 rfl (Pf (aO c1) rfl)) (Z1 6 59 rfl (Rm rfl)) (aD (aL (j:=7) (by kernel_rfl) (fun _ _ _ _ _ h=>h) rfl rfl rfl rfl rfl (fun _ _ h=>aN h (aF rfl)) rfl (fun _=>rfl)) (aL (j:=7) (by kernel_rfl) (fun _ _ _ _ _ h=>h) rfl rfl rfl rfl rfl (fun _ _ h=>aN h (aF rfl)) rfl (fun _=>rfl)) (aL (j:=7) (by kernel_rfl) (fun _ _ _ _ _ h=>h) rfl rfl rfl rfl rfl (fun _ _ h=>aN h (aF rfl)) rfl (fun _=>rfl)) (aL (j:=7) (by kernel_rfl) (fun _ _ _ _ _ h=>h) rfl rfl rfl rfl rfl (fun _ _ h=>aN h (aF rfl)) rfl (fun _=>rfl)) (aD (aL (j:=7) (by kernel_rfl) (fun _ _ _ _ _ h=>h) rfl rfl rfl rfl rfl (fun _ _ h=>aN h (aF rfl)) rfl (fun _=>rfl)) (aL (j:=7) (by kernel_rfl) (fun _ _ _ _ _ h=>h) rfl rfl rfl rfl rfl (fun _ _ h=>aN h (aF rfl)) rfl (fun _=>rfl)) (aL (j:=7) (by kernel_rfl) (fun _ _ _ _ _ h=>h) rfl rfl rfl rfl rfl (fun _ _ h=>aN h (aF rfl)) rfl (fun _=>rfl)) (Z2 7 60 14 67 rfl (Pf rfl rfl)) (aD (Z1 15 68 rfl (Rm rfl)) (aL (j:=16) (by kernel_rfl) (fun _ _ _ _ _ h=>h) rfl rfl rfl rfl rfl (fun _ _ h=>aN h (aF rfl)) rfl (fun _=>rfl)) (aL (j:=16) (by kernel_rfl) (fun _ _ _ _ _ h=>h) rfl rfl rfl rfl rfl (fun _ _ h=>aN h (aF rfl)) rfl (fun _=>rfl)) (aL (j:=16) (by kernel_rfl) (fun _ _ _ _ _ h=>h) rfl rfl rfl rfl rfl (fun _ _ h=>aN h (aF rfl)) rfl (fun _=>rfl)) (aD (aL (j:=16) (by kernel_rfl) (fun _ _ _ _ _ h=>h) rfl rfl rfl rfl rfl (fun _ _ h=>aN h (aF rfl)) rfl (fun _=>rfl)) (aL (j:=16) (by kernel_rfl) (fun _ _ _ _ _ h=>h) rfl rfl rfl rfl rfl (fun _ _ h=>aN h (aF rfl)) rfl (fun _=>rfl)) (aL (j:=16) (by kernel_rfl) (fun _ _ _ _ _ h=>h) rfl rfl rfl rfl rfl (fun _ _ h=>aN h (aF rfl)) rfl (fun _=>rfl)) (aL (j:=16) (by kernel_rfl) (fun _ _ _ _ _ h=>h) rfl rfl rfl rfl rfl (fun _ _ h=>aN h (aF rfl)) rfl (fun _=>rfl)) (aD (aL (j:=16) (by kernel_rfl) (fun _ _ _ _ _ h=>h) rfl rfl rfl rfl rfl (fun _ _ h=>aN h (aF rfl)) rfl (fun _=>rfl)) (aL (j:=16) (by kernel_rfl) (fun _ _ _ _ _ h=>h) rfl rfl rfl rfl rfl (fun _ _ h=>aN h (aF rfl)) rfl (fun _=>rfl)) (Z2 16 69 25 78 rfl (Pf rfl rfl)) (Z1 26 79 rfl (Ra rfl)) bY))))))) ?_
  clear H;intro a w G jH H hv;have H:=H.aQ (hv 27 52 rfl rfl) rfl;clear hv;refine aH ⟨rfl,?_⟩;refine dJ _ _ ?_;clear dJ;refine kW H rfl rfl ?_;refine kP H (SC (Rm rfl ?_));clear H;intro a H;refine bD dB (cs:=[_,_,_,_,_,_,_,_,_,_,_]) H wn rfl rfl (H.hp.dY 0 rfl rfl) rfl ?_;clear H;intro a H;refine gQ gI dB [_,_,_,_,_,_,_,_,_,_,_] [_,_,_,_,_,_,_,_,_,_,_] H wn rfl rfl rfl rfl rfl (by intro i q h;match i,h with|0,h=>exact h|n+1,h=>simp at h) rfl rfl ?_;clear H;intro Ls a w Nu H;refine oL (Li:=[_,_]) (Lo:=Lo) (news:=vZ) gI dB rfl rfl H wn rfl rfl hrw (by rw [rT];rfl) (by rw [rT];exact H.hp.dY 0 rfl rfl) zQ.one (by omega) (by omega) rfl ?_;clear H;intro v31 Ca a w CW H;refine kH H (aV K7 rfl (SC (Rd rfl (Rm rfl ?_))));clear H K7;intro a H;refine aH ?_;refine dw ((k+1,v31,xs++vZ,Ca,G)) (by exact (H.dU (Pl:=[_,_]) (cK:=[]) [] (by decide) rfl).sub ⟨rfl,rfl,rfl,rfl,aB⟩) ?_ ?_
  ·(try dsimp only);exact ⟨by omega,CW,by rw [hA1];exact (ji.mono (fun b o h=>jH b o (qN b o (pI b o (rU b o (qL b o h)))))).snoc (zQ.mono jH) (by rw [rT];rfl),fun b o h=>jH b o (qN b o (pI b o (rU b o (qL b o (hgm b o h)))))⟩
  first|omega|(dsimp only;omega)
 intro h10 a H
 try have lg:=dF h10
 refine dW ?_;refine K3 _ _ ?_;clear K3;refine bq (fun _ dN=>?_);obtain ⟨G',hm,hrep,H⟩:=H.sV (Li:=[]) hrw (rows:=l.map ay.dat) (by simp;omega) (by rw [jA (by simp;omega)] at ji;exact ji);exact kP H (SC (Rm rfl (aV dN rfl (LR results44 rfl fun H=>H.rt hrep))))
end
section
open Go.RowKit
end
section
open Go.RowKit
end
section
open Go.RowKit
end
section
open Go.RowKit
theorem aji (l m:List ay):bg (l++m)=bg l+bg m:=by simp [bg,PL]
end
section
open Go.RowKit
end
section
open Go.RowKit
end
section
open Go.RowKit
theorem abV:∀ args w,(callFunc 42 args).run prog w=.ok (.enter 42 args) w:=enters func42 rfl (by kernel_rfl)
theorem SG:∀ args w,(callFunc 43 args).run prog w=.ok (.enter 43 args) w:=enters func43 rfl (by kernel_rfl)
def zY (l:List ay) (fr to:Int):Int:=if wS l=0 then (if fr < 0∨to < fr∨vJ l < to then 2 else 0) else wS l
theorem Z8 (G:GH) (w0:World) (hG:Hold G w0) (l:List ay) (fr to:Int) (v:aj) (hv:av G (.sl 11 (l.map ay.dat)) v) (hz:bg l≤4294967296) :
  Calls prog 42 #[v,vi fr,vi to] w0 (bC w0 G fun u G'=>u=vi (zY l fr to)):=by
 refine eN [(0,_),(1,_),(2,_)] func42 rfl ntmps42 rfl rfl hG ?_;intro a H;refine kP H (SR fun _ K1=>ak K1 rfl (SR fun _ K2=>Rm rfl ?_));clear H K1;intro a H;refine s_call Sz H wn rfl (Vo _ _ H.ro l v hv hz) rfl ?_;clear H;rintro v11 _ a w ⟨rfl,rfl⟩ - H;refine kH H (Rm rfl ?_);clear H;intro a H;(iterate 2 refine lu H wn rfl rfl rfl ?_;clear H;intro a H);refine kH H (Ra rfl (ak K2 rfl (SQ fun _ K3=>SB (SR fun _ K4=>Rm rfl (Rc rfl (ak K4 rfl (Cd rfl ?_ ?_))))))) <;> clear H K2 K4
 ·intro dO a H
  try have lQ:=dT dO
  exact kP H (SR fun _ K5=>Rm rfl (ak K5 rfl (LR results42 rfl fun H=>H.rt (by rw [zY,ah lQ]))))
 intro dO a H
 try have lQ:=dF dO
 refine kP H (SR fun _ K6=>Rm rfl (Rc rfl (Rm rfl (Sp 21 rfl ?_ ?_)))) <;> clear H
 ·intro h21 a H
  try have oK:=dT h21
  refine kH H (aX h21 rfl (Pt h21 rfl (Rm rfl (aX rfl rfl (Pt rfl rfl (ak K6 rfl (Ct rfl rfl (SR fun _ K7=>ak K7 rfl ?_))))))));clear H K6 K7;intro a H;refine lr H results42 rfl ?_
  have h0:wS l=0:=by omega
  refine H.rt ?_;rw [zY,au h0]
  first
   | (rw [au (by omega)];done)
   | (rw [ah (by omega)];done)
 intro h21 a H
 try have oK:=dF h21
 refine kH H (YM h21 rfl (YM h21 rfl (YC h21 rfl (Pf h21 rfl (Rm rfl (Sp 26 rfl ?_ ?_)))))) <;> clear H
 ·intro gK a H
  try have p26:=dT gK
  refine kH H (aX gK rfl (Pt gK rfl (ak K6 rfl (Ct rfl rfl (SR fun _ K8=>ak K8 rfl ?_)))));clear H K6 K8;intro a H;refine lr H results42 rfl ?_
  have h0:wS l=0:=by omega
  refine H.rt ?_;rw [zY,au h0]
  first
   | (rw [au (by omega)];done)
   | (rw [ah (by omega)];done)
 intro gK a H
 try have p26:=dF gK
 refine kH H (YM gK rfl (YM gK rfl (YC gK rfl (Pf gK rfl (ak K6 rfl (Cd rfl ?_ ?_)))))) <;> clear H K6
 ·intro h18 a H
  try have vK:=dT h18
  refine kP H (SR fun _ K9=>ak K9 rfl ?_);clear H K9;intro a H;refine lr H results42 rfl ?_
  have h0:wS l=0:=by omega
  refine H.rt ?_;rw [zY,au h0]
  first
   | (rw [au (by omega)];done)
   | (rw [ah (by omega)];done)
 intro h18 a H
 try have vK:=dF h18
 refine kP H (Kc K3 (SR fun _ aS=>ak aS rfl ?_));clear H K3 aS;intro a H;refine lr H results42 rfl ?_
 have h0:wS l=0:=by omega
 refine H.rt ?_;rw [zY,au h0]
 first
  | (rw [au (by omega)];done)
  | (rw [ah (by omega)];done)
def QX (m:List ay):Prop:=Fu m∧∀ x∈m,QW x
theorem HZ:∀ {m l:List ay},m.Sublist l→bg m≤bg l
 | _,_,.slnil=>bU _
 | _,_,.cons a h=>by have:=HZ h;simp only [bg,eY,eD] at *;omega
 | _,_,.cons_cons a h=>by have:=HZ h;simp only [bg,eY,eD] at *;omega
theorem OM:∀ (l:List ay) (o:Nat),(gu o l).map (·.2)=l
 | [],_=>rfl
 | x :: l,o=>by simp [gu,OM l]
theorem afX (t:Int) (l:List ay):(uH t l).Sublist l:=by
 have h:(lA t (gu 0 l)).Sublist ((gu 0 l).map (·.2)):=List.Sublist.map _ List.filter_sublist
 rwa [OM] at h
theorem ahr (t:Int) (l:List ay):(Bq t l).Sublist l:=by
 have h:(rA t (gu 0 l)).Sublist ((gu 0 l).map (·.2)):=List.Sublist.map _ List.filter_sublist
 rwa [OM] at h
def H9 (t:Int) (l:List ay):Prop:=∀ a∈gu 0 l,vE t a=true∨t≤a.1
theorem ail (G:GH) (w0:World) (hG:Hold G w0) (l:List ay) (fr to:Int) (v:aj) (hv:av G (.sl 11 (l.map ay.dat)) v) (hz:bg l≤1073741824) (hr:zY l fr to=0)
  (h1:H9 to l) (h2:H9 fr (uH to l)) (hp:QX (Bq fr (uH to l))) :
  Calls prog 19 #[v,vi fr,vi to] w0 (bC w0 G fun u G'=>∃ x,u=.tuple #[x,vi 0]∧av G' (.sl 11 ((Bq fr (uH to l)).map ay.dat)) x):=by
 have z1:=HZ (afX to l);have z2:=HZ (ahr fr (uH to l));refine eN [(0,_),(1,_),(2,_)] func19 rfl ntmps19 rfl rfl hG ?_;intro a H;refine kP H (SR fun _ K1=>Ra rfl (ak K1 rfl (SQ fun _ K2=>SR fun _ K3=>Rm rfl (Rm rfl (Rm rfl ?_)))));clear H K1;intro a H;refine s_call abV H wn rfl (Z8 _ _ H.ro l fr to v hv (by omega)) rfl ?_;clear H;rintro v16 qC a w rfl qM H;rw [hr] at H;refine kH H (ak K3 rfl (SR fun _ K4=>Rm rfl (Rc rfl (Kz K4 (Cd rfl ?_ ?_))))) <;> clear H K3 K4
 ·intro h18 a H
  exact absurd h18 (by decide)
 intro h18 a H
 try have vK:=dF h18
 refine kP H (Kc K2 (SR fun _ K5=>Rm rfl (Rm rfl ?_)));clear H K2;intro a H;refine s_call SG H wn rfl (Sb _ _ H.ro l to v (hv.mono qM) hz h1) rfl ?_;clear H;rintro v23 KL a w ⟨x,y,rfl,hx,hy⟩ pI H;refine kH H (Rm rfl ?_);clear H;intro a H;(iterate 2 refine lu H wn rfl rfl rfl ?_;clear H;intro a H);refine kH H (Ra rfl (ak K5 rfl (SR fun _ K6=>Rm rfl (Rm rfl ?_))));clear H K5;intro a H;refine s_call SG H wn rfl (Sb _ _ H.ro (uH to l) fr x hx (by omega) h2) rfl ?_;clear H;rintro v29 Qj a w ⟨x2,y2,rfl,hx2,hy2⟩ ajT H;refine kH H (Rm rfl ?_);clear H;intro a H;(iterate 2 refine lu H wn rfl rfl rfl ?_;clear H;intro a H);refine kH H (Ra rfl (ak K6 rfl (SR fun _ K7=>Rm rfl ?_)));clear H K6;intro a H;refine s_call SH H wn rfl (agG _ _ H.ro _ y2 hy2 hp.1 hp.2 (by omega)) rfl ?_;clear H;rintro v33 Yi a w UG ajU H;obtain ⟨A33,n33,c33,rfl⟩:=UG.form;refine kH H (Ra rfl (ak K7 rfl ?_));clear H K7;intro a H;refine cu ?_;refine (eT H results19 (.cons (aU H rfl) (.cons (aU H rfl) .nil)) ?_).1;exact H.rt ⟨_,rfl,UG⟩
end
section
open Go.RowKit
abbrev hd0:ig:=⟨[],⟨0,0,[],[]⟩⟩
theorem Ji {G:GH}:jl G hd0 (.slice none 0 0) (.slice none 0 0) (.slice none 0 0):=⟨av.jf rfl (by decide),av.jf rfl (by decide),av.jf rfl (by decide)⟩
end
section
open Go.RowKit
theorem ait:oU prog 63 [(0,1),(1,1),(2,1),(3,1),(4,5),(9,1),(10,1)] [.int .i64 0,.int .i64 0,.int .i64 0,.string ⟨#[]⟩,.slice none 0 0,.int .i64 0,.int .i64 0,.slice none 0 0,.slice none 0 0,.slice none 0 0,.slice none 0 0]:=⟨by kernel_rfl,by kernel_rfl⟩
theorem ais:oU prog 38 [(0,1),(1,5),(6,1),(7,4)] [.slice none 0 0,.slice none 0 0,.int .i64 0,.int .i64 0,.slice none 0 0,.slice none 0 0,.slice none 0 0,.slice none 0 0,.slice none 0 0,.slice none 0 0,.slice none 0 0]:=⟨by kernel_rfl,by kernel_rfl⟩
theorem abY:∀ args w,(callFunc 48 args).run prog w=.ok (.enter 48 args) w:=enters func48 rfl (by kernel_rfl)
theorem abP:∀ args w,(callFunc 26 args).run prog w=.ok (.enter 26 args) w:=enters func26 rfl (by kernel_rfl)
theorem abN:∀ args w,(callFunc 17 args).run prog w=.ok (.enter 17 args) w:=enters func17 rfl (by kernel_rfl)
theorem abO:∀ args w,(callFunc 19 args).run prog w=.ok (.enter 19 args) w:=enters func19 rfl (by kernel_rfl)
theorem aiH:Ty prog 121 2 32 [.pointer none,.slice none 0 0] true:=⟨by kernel_rfl,by kernel_rfl⟩
theorem SA:∀ args w,(callFunc 31 args).run prog w=.ok (.enter 31 args) w:=enters func31 rfl (by kernel_rfl)
theorem abQ:∀ args w,(callFunc 27 args).run prog w=.ok (.enter 27 args) w:=enters func27 rfl (by kernel_rfl)
theorem PV:oN ⟨#[120,121,122]⟩=true∧pq ⟨#[120,121,122]⟩ 0=3:=by
 have d0:lI ⟨#[120,121,122]⟩ 0=(120,1,true):=by decide
 have d1:lI ⟨#[120,121,122]⟩ 1=(121,1,true):=by decide
 have d2:lI ⟨#[120,121,122]⟩ 2=(122,1,true):=by decide
 have e3:mW ⟨#[120,121,122]⟩ 3=-1:=by rw [mW,dif_neg (by decide)]
 have e2:mW ⟨#[120,121,122]⟩ 2=-1:=by rw [mW,dif_pos (by decide),dif_pos (by rw [d2]),d2];exact e3
 have e1:mW ⟨#[120,121,122]⟩ 1=-1:=by rw [mW,dif_pos (by decide),dif_pos (by rw [d1]),d1];exact e2
 have e0:mW ⟨#[120,121,122]⟩ 0=-1:=by rw [mW,dif_pos (by decide),dif_pos (by rw [d0]),d0];exact e1
 have c3:pq ⟨#[120,121,122]⟩ 3=0:=by rw [pq,ah (by decide)]
 have c2:pq ⟨#[120,121,122]⟩ 2=1:=by rw [pq,au (by decide),c3];decide
 have c1:pq ⟨#[120,121,122]⟩ 1=2:=by rw [pq,au (by decide),c2];decide
 have c0:pq ⟨#[120,121,122]⟩ 0=3:=by rw [pq,au (by decide),c1];decide
 exact ⟨by unfold oN;rw [e0];decide,c0⟩
theorem aiG:oN ⟨#[97]⟩=true:=by
 have d0:lI ⟨#[97]⟩ 0=(97,1,true):=by decide
 have e1:mW ⟨#[97]⟩ 1=-1:=by rw [mW,dif_neg (by decide)]
 have e0:mW ⟨#[97]⟩ 0=-1:=by rw [mW,dif_pos (by decide),dif_pos (by rw [d0]),d0];exact e1
 unfold oN;rw [e0];decide
theorem Xn:oN ⟨#[]⟩=true:=by
 have e0:mW ⟨#[]⟩ 0=-1:=by rw [mW,dif_neg (by decide)]
 unfold oN;rw [e0];decide
def lU:ay:=.mk 8 1 1 ⟨#[97]⟩ hd0 [] []
def kS:ay:=.mk 1 0 0 ⟨#[120,121,122]⟩ hd0 [] []
def nu:ay:=.mk 8 2 1 ⟨#[]⟩ hd0 [] []
def ny:ay:=.mk 2 0 0 ⟨#[]⟩ hd0 [] []
def jV:List ay:=[lU,kS,nu,ny]
theorem BF:dV kS=3∧qB kS=0:=by simp [dV,qB,kS,ay.kind,ay.text,uZ,EY,PV.1,PV.2]
theorem yG:dV lU=1∧qB lU=0:=by simp [dV,qB,lU,ay.kind]
theorem EW:dV nu=1∧qB nu=0:=by simp [dV,qB,nu,ay.kind]
theorem Ho:dV ny=1∧qB ny=0:=by simp [dV,qB,ny,ay.kind]
theorem agw:n1 kS=3:=by simp [n1,BF.1,BF.2]
theorem agv:n1 lU=1:=by simp [n1,yG.1,yG.2]
theorem agt:n1 nu=1:=by simp [n1,EW.1,EW.2]
theorem agu:n1 ny=1:=by simp [n1,Ho.1,Ho.2]
theorem a16:fJ 0 0 jV=[⟨1,1,⟨#[97]⟩,0,0⟩,⟨2,1,⟨#[]⟩,0,4⟩]:=by
 simp only [jV,fJ,La,agw,agv,agt,agu]
 simp [lU,kS,nu,ny,ay.kind,ay.code,ay.id,ay.text]
theorem WW:qx (fJ 0 0 jV) 1=[⟨1,⟨#[97]⟩,0,1,0,4⟩]:=by
 rw [a16]
 simp [qx,nU,mo,wY,zk]
theorem adD:FY jV ⟨#[97]⟩=some ⟨1,⟨#[97]⟩,0,1,0,4⟩:=by
 unfold FY;rw [WW];simp
theorem Vn:wS jV=0∧vJ jV=6:=by
 simp [wS,vJ,uh,nW,jV,BF.1,BF.2,yG.1,yG.2,EW.1,EW.2,Ho.1,Ho.2]
theorem o16:gu 0 jV=[(0,lU),(1,kS),(4,nu),(5,ny)]:=by simp [gu,jV,yG.1,BF.1,EW.1]
theorem lf16:uH 4 jV=[lU,kS]:=by simp [uH,lA,o16,vE,yG.1,BF.1,EW.1,Ho.1]
theorem VT:gu 0 [lU,kS]=[(0,lU),(1,kS)]:=by simp [gu,yG.1]
theorem Wn:Bq 1 (uH 4 jV)=[kS]:=by rw [lf16];simp [Bq,rA,VT,vE,yG.1,BF.1]
theorem aaA:H9 4 jV:=by
 intro a ha;rw [o16] at ha
 simp only [lX,List.not_mem_nil,or_false] at ha
 rcases ha with rfl|rfl|rfl|rfl <;> simp [vE,yG.1,BF.1]
theorem aaB:H9 1 (uH 4 jV):=by
 rw [lf16];intro a ha;rw [VT] at ha
 simp only [lX,List.not_mem_nil,or_false] at ha
 rcases ha with rfl|rfl <;> simp [vE,yG.1]
theorem agY:QX (Bq 1 (uH 4 jV)):=by
 rw [Wn];exact ⟨Fu.one (bU _),fun x hx=>by rw [rG.1 hx];exact ⟨rfl,rfl,by decide,fun _=>by rw [ByteArray.toList_eq];decide⟩⟩
theorem ahs:zY jV 1 4=0:=by simp [zY,Vn.1,Vn.2]
theorem adx:AQ jV 0=some jV:=by simp [AQ,Cw]
theorem XM:bg jV≤1000:=by
 have h1:=nZ lU;have h2:=nZ kS;have h3:=nZ nu;have h4:=nZ ny
 have h0:oO hd0=5:=by simp [HV,eD]
 have s1:lU.text.size=1:=rfl;have s2:kS.text.size=3:=rfl;have s3:nu.text.size=0:=rfl;have s4:ny.text.size=0:=rfl;rw [show lU.head=hd0 from rfl,h0,show bg lU.flow=0 from rfl,show gT lU.rows=0 from rfl] at h1;rw [show kS.head=hd0 from rfl,h0,show bg kS.flow=0 from rfl,show gT kS.rows=0 from rfl] at h2;rw [show nu.head=hd0 from rfl,h0,show bg nu.flow=0 from rfl,show gT nu.rows=0 from rfl] at h3;rw [show ny.head=hd0 from rfl,h0,show bg ny.flow=0 from rfl,show gT ny.rows=0 from rfl] at h4
 simp only [bg,jV,eY,oZ,eD]
 omega
theorem KD (C:gJ) {e:Int} (h1:1≤e) (h2:e≤10):iw C e hd0=0:=by
 have h3:gq e []=0:=by rw [gq,ah (by omega)];rfl
 simp [iw,cZ,hd0,h3,wW,jv,jM,bW]
theorem ok16:fQ jV:=by
 have f1:jW lU=0:=by
  have hn:oC ⟨#[97]⟩=true:=by decide
  simp [jW,lU,ay.kind,ay.code,ay.id,ay.text,ay.flow,ay.rows,codeOk,vF,xL,yu,yJ,yC,rP,aiG,hn]
 have f2:jW kS=0:=by
  simp [jW,kS,ay.kind,ay.code,ay.id,ay.text,ay.flow,ay.rows,codeOk,vF,xL,yu,yJ,yC,rP,PV.1]
 have f3:jW nu=0:=by
  simp [jW,nu,ay.kind,ay.code,ay.id,ay.text,ay.flow,ay.rows,codeOk,vF,xL,yu,yJ,yC,rP,Xn]
 have f4:jW ny=0:=by
  simp [jW,ny,ay.kind,ay.code,ay.id,ay.text,ay.flow,ay.rows,codeOk,vF,xL,yu,yJ,yC,rP,Xn]
 have C:gJ:=⟨[],[],[]⟩;have q1:∀ s:CS,jP true false 0 lU.kind lU.id s=(0,s):=fun s=>rfl;have q2:∀ s:CS,jP true false 0 kS.kind kS.id s=(0,s):=fun s=>rfl;have q3:∀ s:CS,jP true false 0 nu.kind nu.id s=(0,s):=fun s=>rfl;have q4:∀ s:CS,jP true false 0 ny.kind ny.id s=(0,s):=fun s=>rfl;have h1:iw C lU.kind lU.head=0:=KD C (by decide) (by decide);have h2:iw C kS.kind kS.head=0:=KD C (by decide) (by decide);have h3:iw C nu.kind nu.head=0:=KD C (by decide) (by decide);have h4:iw C ny.kind ny.head=0:=KD C (by decide) (by decide);refine ⟨C,true,false,0,⟨0,[]⟩,(iY C true false 0 jV ⟨0,[]⟩).2,?_⟩
 simp [jV,iY,Oo,fG,f1,f2,f3,f4,q1,q2,q3,q4,h1,h2,h3,h4,show ¬ lU.kind=6 by decide,show ¬ lU.kind=7 by decide,show ¬ kS.kind=6 by decide,show ¬ kS.kind=7 by decide,show ¬ nu.kind=6 by decide,show ¬ nu.kind=7 by decide,show ¬ ny.kind=6 by decide,show ¬ ny.kind=7 by decide]
theorem Te (G:GH) (w0:World) (hG:Hold G w0) :
  Calls prog 31 #[] w0 (bC w0 G fun u G'=>∃ D:nK,u=D.val∧av G' (.sl 11 (jV.map ay.dat)) (fq D.f)):=by
 refine eN [] func31 rfl ntmps31 rfl rfl hG ?_;intro a H;refine cO (fun _ K1=>?_);refine eU ru H wn rfl ?_;clear H;intro b0 a w hb0 H;refine K1 _ _ ?_;clear K1;refine cO (fun _ K2=>?_);(iterate 4 refine jJ ait [_,_,_,_,_,_,_,_,_,_,_] H wn rfl rfl rfl rfl ?_;clear H;intro a H);refine gQ gI dB [_,_,_,_,_,_,_,_,_,_,_,_,_,_,_,_,_,_,_,_,_,_,_,_,_,_,_,_,_,_,_,_,_,_,_,_,_,_,_,_,_,_,_,_] [_,_,_,_,_,_,_,_,_,_,_,_,_,_,_,_,_,_,_,_,_,_,_,_,_,_,_,_,_,_,_,_,_,_,_,_,_,_,_,_,_,_,_,_] H wn rfl rfl rfl rfl rfl (by intro i q h;match i,h with|0,h=>exact h|1,h=>exact h|2,h=>exact h|3,h=>exact h|n+4,h=>simp at h) rfl rfl ?_;clear H;intro b5 a w hb5 H;refine jJ ais [_,_,_,_,_,_,_,_,_,_,_] H wn rfl rfl rfl rfl ?_;clear H;intro a H;refine bF ru 1 (vs:=[_,_,_,_,_,_,_,_,_,_,_]) _ H wn rfl rfl rfl rfl rfl rfl rfl rfl ?_;clear H;intro w H;dsimp only [List.set,setRow] at H;refine K2 _ _ ?_;clear K2;refine cu ?_;refine (leave1 H results31 (.cons (Ab ru (cs:=[_,_,_,_,_,_,_,_,_,_,_]) H rfl rfl (H.hp.dY 1 rfl rfl)) .nil) ?_).1;have H:=H.dU (Pl:=[_,_]) (cK:=[_]) [0] (by decide) rfl;obtain ⟨G3,NJ,F9,H⟩:=H.dP;have r1:aY G3 lU.dat _:=aY.mkItem (x:=lU) Ji (av.jf (A:=none) (n:=0) (c:=0) rfl (by decide)) (av.jf (A:=none) (n:=0) (c:=0) rfl (by decide));have r2:aY G3 kS.dat _:=aY.mkItem (x:=kS) Ji (av.jf (A:=none) (n:=0) (c:=0) rfl (by decide)) (av.jf (A:=none) (n:=0) (c:=0) rfl (by decide));have r3:aY G3 nu.dat _:=aY.mkItem (x:=nu) Ji (av.jf (A:=none) (n:=0) (c:=0) rfl (by decide)) (av.jf (A:=none) (n:=0) (c:=0) rfl (by decide));have r4:aY G3 ny.dat _:=aY.mkItem (x:=ny) Ji (av.jf (A:=none) (n:=0) (c:=0) rfl (by decide)) (av.jf (A:=none) (n:=0) (c:=0) rfl (by decide));have ji:fH G3 11 (jV.map ay.dat) _:=(((fH.nil.snoc r1 rfl).snoc r2 rfl).snoc r3 rfl).snoc r4 rfl;exact H.rt ⟨⟨(some ⟨b5,0,none⟩,4,4),(none,0,0),(none,0,0),(none,0,0),(none,0,0),(none,0,0),(none,0,0),(none,0,0),(none,0,0),0,0⟩,rfl,av.dZ (n:=4) (cap:=4) F9 rfl (bU _) (show 4≤maxLen by decide) rfl ji⟩
set_option maxHeartbeats 1000000 in
theorem aiD (G:GH) (w0:World) (hG:Hold G w0) (D:nK) (hv:av G (.sl 11 (jV.map ay.dat)) (fq D.f)) :
  Calls prog 27 #[D.val,.string ⟨#[97]⟩] w0 (bC w0 G fun u G'=>u=.tuple #[.string ⟨#[120,121,122]⟩,.bool true]):=by
 have hz:=XM;refine eN [(0,_),(1,_)] func27 rfl ntmps27 rfl rfl hG ?_;intro a H;refine cO (fun _ K1=>?_);refine fC (cs:=[_,_,_,_,_,_,_,_,_,_,_]) H wn rfl rfl rfl ?_;clear H;intro b2 a w hb2 H;refine kH H (Ra rfl (ak K1 rfl (SQ fun _ K2=>?_)));clear H K1;intro a H;obtain ⟨Ga,hma,hb',H⟩:=H.dP;have hga:=fun j v hj=>zx hb' 0 D.cells rfl j v hj;replace hv:=hv.mono hma;refine oz ?_;refine bD ru (cs:=D.cells) H wn rfl rfl (fun j v hj=>H.hp.aJ (hga j v hj)) rfl ?_;clear H;intro a H;refine kH H (Rm rfl ?_);clear H;intro a H;refine s_call abP H wn rfl (YX _ _ H.ro D jV ⟨#[97]⟩ hv ok16 (by omega)) rfl ?_;clear H;rintro v18 KI a w rfl hm18 H;rw [adD] at H;dsimp only [Option.getD_some,Option.isSome_some] at H;replace hv:=hv.mono hm18;replace hga:=fun j v hj=>aK hm18 (hga j v hj);refine kH H (Rm rfl ?_);clear H;intro a H;(iterate 2 refine lu H wn rfl rfl rfl ?_;clear H;intro a H);refine eU kR H wn rfl ?_;clear H;intro b6 a w hb6 H;refine bF kR 0 (vs:=[_,_,_,_,_,_]) _ H wn rfl rfl rfl rfl rfl rfl rfl rfl ?_;clear H;intro w H;dsimp only [List.set,setRow] at H;refine kH H (aV K2 rfl (SQ fun _ K3=>SR fun _ K4=>Rm rfl (Rn rfl (Kz K4 (Cd rfl ?_ ?_))))) <;> clear H K2 K4
 ·intro h22 a H
  exact absurd h22 (by decide)
 intro h22 a H
 try have gV:=dF h22
 refine fO ?_;refine K3 _ _ ?_;clear K3;refine cO (fun _ K5=>?_);refine bD ru (cs:=D.cells) H wn rfl rfl (fun j v hj=>H.hp.aJ (hga j v hj)) rfl ?_;clear H;intro a H;refine kH H (Rf xQ rfl (aR Cu aG 0 rfl rfl ?_));clear H;intro a H;refine s_call abN H wn rfl (adz _ _ H.ro D jV 0 hv (by omega)) rfl ?_;clear H;rintro v28 Yh a w ⟨x28,rfl,hx28⟩ ajS H;rw [adx,Option.getD_some] at hx28;obtain ⟨A28,n28,c28,rfl⟩:=hx28.form;refine kH H (Rm rfl ?_);clear H;intro a H;(iterate 2 refine lu H wn rfl rfl rfl ?_;clear H;intro a H);refine kH H (Ra rfl (ak K5 rfl (SR fun _ K6=>Rm rfl (Rf xQ rfl (aR vw aG 0 rfl rfl (Rf Ei rfl (aR vw aG 0 rfl rfl ?_)))))));clear H K5;intro a H;refine s_call abO H wn rfl (ail _ _ H.ro jV 1 4 _ hx28 (by omega) ahs aaA aaB agY) rfl ?_;clear H;rintro v39 Ql a w ⟨x39,rfl,hx39⟩ aeM H;rw [Wn] at hx39;obtain ⟨A39,n39,c39,rfl⟩:=hx39.form;obtain rfl:n39=1:=hx39.len;refine kH H (Rm rfl ?_);clear H;intro a H;(iterate 2 refine lu H wn rfl rfl rfl ?_;clear H;intro a H);refine kH H (Ra rfl (ak K6 rfl (SR fun _ K7=>?_)));clear H K6;intro a H;refine eU aiH H wn rfl ?_;clear H;intro b12 a w Bc H;refine K7 _ _ ?_;clear K7;refine kP H (SQ fun _ K8=>SR fun _ K9=>Rm rfl (Rl gI rfl (Rm rfl (Kz K9 (SB ?_)))));clear H K9;intro a H;skip;refine eZ (ι:=Nat × aj × aj × Nat × OL) (Tc:=[(12,_),(42,_),(43,_)]) (Lc:=[(_,_)]) (fun gh=>[(44,vi gh.1)]) (fun gh=>[bB b12 gh.2.1 gh.2.2.1]++gh.2.2.2.2) (fun gh=>Ql) (fun gh=>gh.1≤1∧(gh.1=0→gh.2.1=.pointer none∧gh.2.2.1=.slice none 0 0∧gh.2.2.2.2=[])∧(gh.1=1→gh.2.1=(aI b12 0)∧dD 5 1 gh.2.2.1 3 (Lib.byteCells [120,121,122]) gh.2.2.2.2)) (fun gh=>1 - gh.1) ((0,.pointer none,.slice none 0 0,0,[])) (by exact (H.dU (Pl:=[_,_]) (cK:=[_,_]) [1,0] (by decide) rfl).sub ⟨rfl,rfl,rfl,rfl,aB⟩) ?_ ?_
 ·exact ⟨by omega,fun _=>⟨rfl,rfl,rfl⟩,fun h=>absurd h (by decide)⟩
 clear H;intro gh a w hI H;obtain ⟨k,p,v,n,Lo⟩:=gh;dsimp only at hI H;obtain ⟨hk,hk0,hk1⟩:=hI;dsimp only [lca,aZ] at H;refine kP H (SR fun _ aS=>Rc rfl (Kz aS (SQ fun _ bA=>Cd rfl ?_ ?_))) <;> clear H aS
 ·intro h45 a H
  try have p45:=dT h45
  obtain rfl:k=0:=by omega
  obtain ⟨rfl,rfl,rfl⟩:=hk0 rfl;obtain ⟨b,o,pA,pn,pc,dA,dn,dc,yA,yn,yc,fA,fn,fc,rA,rn,rc,rfl,hrow,hhd,hfl,hrw⟩:=zw (l:=[kS]) (k:=0) (by decide) hx39.at_;refine kP H (Kc bA (SQ fun _ bK=>SB (SR fun _ bR=>Ri gI dB rfl rfl ?_)));clear H bA;intro a H;refine bD dB (cs:=[_,_,_,_,_,_,_,_,_,_,_]) H wn rfl rfl (fun j v hj=>H.hp.aJ (hrow j v hj)) rfl ?_;clear H;intro a H;refine eU dB H wn rfl ?_;clear H;intro b14 a w Nt H;refine bF dB 0 (vs:=[_,_,_,_,_,_,_,_,_,_,_]) _ H wn rfl rfl rfl rfl rfl rfl rfl rfl ?_;clear H;intro w H;dsimp only [List.set,setRow] at H;refine bR _ _ ?_;clear bR;refine kP H (SR fun _ bP=>aR jh aG 0 rfl rfl (Rc rfl (Kz bP (Cd rfl ?_ ?_)))) <;> clear H bP
  ·intro h50 a H
   try have p50:=dT h50
   refine kP H (SC (aR sS fZ 0 rfl rfl ?_));clear H;intro a H;refine gN abY (Li:=[_,_]) (L:=bB b12 (.pointer none) (.slice none 0 0) :: []) H wn rfl (ajf _ _ _ b12 (.pointer none) (.slice none 0 0) 0 [] ⟨#[120,121,122]⟩ (.inl rfl) (Hp.owns (Li:=[_,_]) H.hp) dD.nil (by decide)) rfl ?_;clear H;rintro v_ _ L53 a w ⟨v53,YG,rfl,afm,rfl⟩ ajW H;refine kH H (Kn bK (SC (Rd rfl (Rm rfl ?_))));clear H bK;intro a H;refine aH ?_;refine dw ((1,(aI b12 0),v53,0,YG)) (by exact (H.dU (Pl:=[_,_,_]) (cK:=[_,_]) [1,2] (by decide) rfl).sub ⟨rfl,rfl,rfl,rfl,aB⟩) ?_ ?_
   ·(try dsimp only);exact ⟨by omega,fun h=>absurd h (by omega),fun _=>⟨rfl,afm⟩⟩
   first|omega|(dsimp only;omega)
  intro h50 a H
  exact absurd h50 (by decide)
 intro h45 a H
 try have p45:=dF h45
 obtain rfl:k=1:=by omega
 obtain ⟨rfl,hrw3⟩:=hk1 rfl;refine dW ?_;refine K8 _ _ ?_;clear K8;refine cO (fun _ dJ=>?_);refine gN SI (Li:=[_]) (L:=bB b12 _ v :: Lo) H wn rfl (aiy _ _ _ b12 _ v [120,121,122] (Hp.owns (Li:=[_]) H.hp) hrw3 (by decide)) rfl ?_;clear H;rintro v55 Ii L55 a w rfl tq H;refine kH H (Ra rfl (ak dJ rfl ?_));clear H dJ;intro a H;refine cu ?_;refine (eT H results27 (.cons (aU H rfl) (.cons (aU H rfl) .nil)) ?_).1;exact H.rt rfl
theorem Vl (G:GH) (w0:World) (hG:Hold G w0):Calls prog 9 #[] w0 (bC w0 G fun u G'=>u=.bool true):=by
 have hz:=XM;refine eN [] func9 rfl ntmps9 rfl rfl hG ?_;intro a H;refine kP H (SR fun _ K1=>ak K1 rfl (SR fun _ K2=>?_));clear H K1;intro a H;refine s_call SA H wn rfl (Te _ _ H.ro) rfl ?_;clear H;rintro v4 G4 a w ⟨D4,rfl,hv4⟩ Ev H;refine s_call Mi H wn rfl (LA _ _ H.ro D4 jV hv4 ok16 (by omega)) rfl ?_;clear H;rintro v5 G5 a w hr NP H;rw [WW] at hr;obtain ⟨A5,n5,c5,rfl⟩:=hr.form;obtain rfl:n5=1:=hr.len;obtain ⟨b,o,rfl,hrow⟩:=Hf (A:=[⟨1,⟨#[97]⟩,0,1,0,4⟩]) (k:=0) hr (by decide);refine kH H (ak K2 rfl (SR fun _ K3=>?_));clear H K2;intro a H;refine s_call SA H wn rfl (Te _ _ H.ro) rfl ?_;clear H;rintro v7 G7 a w ⟨D7,rfl,hv7⟩ zP H;refine s_call abQ H wn rfl (aiD _ _ H.ro D7 hv7) rfl ?_;clear H;rintro v8 G8 a w rfl xY H;refine kH H (Rm rfl ?_);clear H;intro a H;(iterate 2 refine lu H wn rfl rfl rfl ?_;clear H;intro a H);refine kH H (Ra rfl (ak K3 rfl (SR fun _ K4=>Rm rfl (Rl tO rfl (Rc rfl (Rm rfl (Sp 14 rfl ?_ ?_))))))) <;> clear H K3
 ·intro dO a H
  try have lQ:=dT dO
  refine kH H (YM dO rfl ?_);clear H;intro a H;refine Bu tO kR 0 H (wg H rfl rfl dO) rfl rfl rfl (by decide) rfl ?_;clear H;intro a H;refine bD kR (cs:=[vi 1,.string ⟨#[97]⟩,vi 0,vi 1,vi 0,vi 4]) H (wg H rfl rfl dO) rfl rfl (fun j v hj=>H.hp.aJ (aK xY (aK zP (hrow j v hj)))) rfl ?_;clear H;intro a H;(iterate 2 refine jJ PD [_,_] H (wg H rfl rfl dO) rfl rfl rfl rfl ?_;clear H;intro a H);refine jJ Kh [_,_,_,_,_,_] H (wg H rfl rfl dO) rfl rfl rfl rfl ?_;clear H;intro a H;refine ahD Ta H (wg H rfl rfl dO) rfl rfl rfl rfl ?_;clear H;intro a H;refine kH H (Pt dO rfl (Rm rfl (Sp 23 rfl ?_ ?_))) <;> clear H
  ·intro h23 a H
   try have rY:=dT h23
   refine kH H (YM h23 rfl ?_);clear H;intro a H;refine Bt H (wg H rfl rfl h23) rfl rfl rfl ?_;clear H;intro a H;refine kH H (Pt h23 rfl (Rm rfl (Sp 27 rfl ?_ ?_))) <;> clear H
   ·intro h27 a H
    exact kH H (YM h27 rfl (Pt h27 rfl (ak K4 rfl (LR results9 rfl fun H=>H.rt rfl))))
   intro h27 a H
   try have p27:=dF h27
   exact absurd h27 (by first|decide|simp [iR,jq])
  intro h23 a H
  try have rY:=dF h23
  exact absurd h23 (by first|decide|simp [iR,jq])
 intro dO a H
 exact absurd dO (by decide)
end
section
open Go.RowKit
theorem Eb:∀ args w,(callFunc 58 args).run prog w=.ok (.enter 58 args) w:=enters func58 rfl (by kernel_rfl)
theorem Mg:∀ args w,(callFunc 128 args).run prog w=.ok (.enter 128 args) w:=enters func128 rfl (by kernel_rfl)
theorem FL:∀ args w,(callFunc 60 args).run prog w=.ok (.enter 60 args) w:=enters func60 rfl (by kernel_rfl)
theorem Es (G:GH) (L:OL) (w0:World) (st:List bM) (li:List fI) (rv:List eX) (b ms ml mr mb mu:Nat) (n:Int) (hck:sF G st li rv ms ml mr mu) (hO:gW G (fD b ms ml mr mb mu n :: L) w0)
  (e:Int) (h:ig) (p d l:aj) (hh:jl G h p d l) (hz:oO h≤4294967296) :
  Calls prog 58 #[(aI b 0),vi e,xX h p d l] w0 (gF w0 G (fD b ms ml mr mb mu n :: L) fun v G' L'=>G=G'∧L'=fD b ms ml mr mb mu n :: L∧v=vi (iw (aT st li rv) e h)):=by
 have hm:=GH.Iw G (o:=(fD b ms ml mr mb mu n).2) (hO.sep _ iB);exact (aeH (G.add b (fD b ms ml mr mb mu n).2) w0 hO.add st li rv b ms ml mr mb mu n (hck.mono hm) (GH.Ld _ _ _) e h p d l (hh.mono hm) hz).mono fun _ _=>aho (b:=b) (o:=(fD b ms ml mr mb mu n).2) (R':=fun v=>v=vi (iw (aT st li rv) e h)) hO fun _ _ h=>h
abbrev H8 (b ms ml mr mb mu:Nat) (L:OL) (r:CR):aj→OL→Prop:=fun u L'=>∃ s:CS,u=vi r.1∧L'=fD b ms ml mr mb mu s.n :: (mb,fB (fE s.bE)) :: L∧(r.1=0→s=r.2)
def DL (m:Nat):Prop:=∀ (G:GH) (L:OL) (w0:World) (st:List bM) (li:List fI) (rv:List eX) (b ms ml mr mb mu:Nat) (s:CS) (l:List ay) (v:aj) (body note:Bool) (t:Int),
 sF G st li rv ms ml mr mu→gW G (fD b ms ml mr mb mu s.n :: (mb,fB (fE s.bE)) :: L) w0→av G (.sl 11 (l.map ay.dat)) v→bg l < m→0≤t→t≤4→0≤s.n→s.n+(bg l:Nat)≤1099511627776 →
 Calls prog 60 #[(aI b 0),v,.agg #[.bool body,.bool note,vi t]] w0 (gF w0 G (fD b ms ml mr mb mu s.n :: (mb,fB (fE s.bE)) :: L) fun u G' L'=>G=G'∧H8 b ms ml mr mb mu L (iY (aT st li rv) body note t l s) u L')
theorem rows_ok {m:Nat} (ih:DL m) (hm:m≤4294967296) (Gt:GH) (L:OL) (w0:World) (st:List bM) (li:List fI) (rv:List eX) (b ms ml mr mb mu:Nat) (s:CS) (l:List bO) (v:aj) (note:Bool) (t:Int)
  (hck:sF Gt st li rv ms ml mr mu) (hO:gW Gt (fD b ms ml mr mb mu s.n :: (mb,fB (fE s.bE)) :: L) w0) (hv:av Gt (.sl 6 (l.map bO.dat)) v) (hz:gT l < m) (ht0:0≤t) (CX:t≤4) (hs0:0≤s.n) (hs1:s.n+(gT l:Nat)≤1099511627776) :
  Calls prog 129 #[(aI b 0),v,.agg #[.bool false,.bool note,vi t]] w0 (gF w0 Gt (fD b ms ml mr mb mu s.n :: (mb,fB (fE s.bE)) :: L) fun u G' L'=>H8 b ms ml mr mb mu L (kQ l.length (fun s=>iG (aT st li rv) note t l s) s) u L'):=by
 obtain ⟨A,c,rfl,hc1,hc2,hg⟩:=hv.slice;rw [bT] at *;have hll:=H6 l;refine jN (N:=77) (T:=[(0,_),(1,_),(2,_)]) func129 rfl ntmps129 rfl rfl hO ?_;intro a H;refine cO (fun _ K1=>?_);refine fC (cs:=[_,_,_]) H wn rfl rfl rfl ?_;clear H;intro b5 a w hb5 H;refine kH H (ak K1 rfl (SQ fun _ K2=>SR fun _ K3=>Rm rfl (Rl mG rfl (Rc rfl (Kz K3 (Cd rfl ?_ ?_)))))) <;> clear H K1 K3
 ·intro dS a H
  try have lS:=dT dS
  refine bq (fun _ K4=>?_);have hE:kQ l.length (fun s=>iG (aT st li rv) note t l s) s=(11,s):=au (by omega);exact kP H (SC (aV K4 rfl (LR results129 rfl fun H=>H.hp.gM (L':=fD b ms ml mr mb mu s.n :: (mb,fB (fE s.bE)) :: L) (by repeat (first|exact iD _|apply List.Sublist.cons)) ⟨s,by rw [hE],rfl,fun h=>by rw [hE]⟩)))
 intro dS a H
 try have lS:=dF dS
 refine kP H (Kc K2 (SQ fun _ K5=>SR fun _ K6=>Rm rfl (Rl mG rfl (Rc rfl (Kz K6 (Cd rfl ?_ ?_)))))) <;> clear H K2 K6
 ·intro h20 a H
  try have Dp:=dT h20
  refine bq (fun _ K7=>?_)
  have hE:kQ l.length (fun s=>iG (aT st li rv) note t l s) s=(9,s):=by rw [kQ,ah (by omega),au (by omega)]
  exact kP H (SC (aV K7 rfl (LR results129 rfl fun H=>H.hp.gM (L':=fD b ms ml mr mb mu s.n :: (mb,fB (fE s.bE)) :: L) (by repeat (first|exact iD _|apply List.Sublist.cons)) ⟨s,by rw [hE],rfl,fun h=>by rw [hE]⟩)))
 intro h20 a H
 try have Dp:=dF h20
 refine kP H (Kc K5 (SQ fun _ K8=>SQ fun _ K9=>?_));clear H K5;intro a H
 have hE:kQ l.length (fun s=>iG (aT st li rv) note t l s) s=iG (aT st li rv) note t l s:=by rw [kQ,ah (by omega),ah (by omega)]
 refine kP H (SC (Rm rfl (Rl mG rfl (Rm rfl (Kn K9 (SB ?_))))));clear H K9;intro a H;skip;refine eZ (ι:=Nat × CS × GH) (Tc:=[(0,_),(5,_),(21,_),(22,_)]) (Lc:=[(_,_)]) (fun gh=>[(23,vi gh.1)]) (fun gh=>[fD b ms ml mr mb mu gh.2.1.n,(mb,fB (fE gh.2.1.bE))]++L) (fun gh=>gh.2.2) (fun gh=>gh.1≤l.length∧(∀ b o,Gt b=some o→gh.2.2 b=some o)∧iG (aT st li rv) note t l s=iG (aT st li rv) note t (l.drop gh.1) gh.2.1∧0≤gh.2.1.n∧gh.2.1.n+(gT (l.drop gh.1):Nat)≤1099511627776) (fun gh=>l.length - gh.1) ((0,s,Gt)) (by exact (H).sub ⟨rfl,rfl,rfl,rfl,rfl,aB⟩) ?_ ?_
 ·exact ⟨iK _,fun _ _ h=>h,rfl,hs0,hs1⟩
 clear H;intro gh a w hI H;obtain ⟨k,s1,g⟩:=gh;dsimp only at hI H;obtain ⟨hk,hgm,hR,hn0,hn1⟩:=hI;dsimp only [lca,aZ] at H;refine kP H (SR fun _ aS=>Rc rfl (Kz aS (SQ fun _ bA=>Cd rfl ?_ ?_))) <;> clear H aS
 ·intro dQ a H
  try have jO:=dT dQ
  have hk2:k < l.length:=by omega
  have hsz:=KF hk2;have hcs:=Hz l[k].cells
  have hdz:gT (l.drop k)=1+cB l[k].dat+gT (l.drop (k+1)):=by simp only [gT];rw [lG hk2,eY,eD]
  have hrz:=Ar l[k];obtain ⟨xb,xo,qA,qn,qc,eA,en,ec,zA,zn,zc,cA,cn,cc,rfl,hrow,zR,hcl⟩:=GV hk2 hg;replace hrow:=fun j u hj=>aK hgm (hrow j u hj);replace zR:=zR.mono hgm;replace hcl:=hcl.mono hgm;have hcn:=hcl.len;rw [bT] at hcn;subst hcn;have aew:=hck.mono hgm;rw [lG hk2,iG,JY] at hR;refine kP H (Kc bA (SQ fun _ bK=>SB (SR fun _ bR=>Ri mG jQ rfl rfl ?_)));clear H bA;intro a H;refine bD jQ (cs:=[_,_,_,_,_,_]) H wn rfl rfl (fun j v hj=>H.hp.aJ (hrow j v hj)) rfl ?_;clear H;intro a H;refine eU jQ H wn rfl ?_;clear H;intro b8 a w F9 H;refine bF jQ 0 (vs:=[_,_,_,_,_,_]) _ H wn rfl rfl rfl rfl rfl rfl rfl rfl ?_;clear H;intro w H;dsimp only [List.set,setRow] at H;refine bR _ _ ?_;clear bR;refine bq (fun _ bP=>?_);refine bq (fun _ dJ=>?_);refine dI hmx [[],[],[1],[0,1,2],[],[4],[4,5],[4,5,6],(ra 0 8),[],[9],[9,10],[9,10,11],(ra 0 13),(ra 0 14),(ra 0 15),(ra 0 16)] [14,15,16] (by kernel_rfl) [_,_,xX l[k].head (.slice qA qn qc) (.slice eA en ec) (.slice zA zn zc),vi (iw (aT st li rv) 9 l[k].head),_,.slice cA l[k].cells.length cc,_,_,vi (bW (decide ((l[k].cells.length:Int)=0)) 11),_,.slice cA l[k].cells.length cc,_,_,vi (bW (decide (32 < (l[k].cells.length:Int))) 9)] H (aD (Z0 rfl (Rm rfl)) (Z0 rfl (Rf TI rfl)) ?_ ?_ (aD (Z0 rfl (Rf vC rfl)) (Z1 4 31 rfl (Ro vQ 0 rfl)) (Z1 5 32 rfl (Rl pU rfl)) (Z1 6 33 rfl (Rc rfl)) (aD ?_ (Z0 rfl (Rf vC rfl)) (Z1 9 36 rfl (Ro vQ 0 rfl)) (Z1 10 37 rfl (Rl pU rfl)) (aD (Z1 11 38 rfl (Rc rfl)) ?_ (bL rfl) (bL rfl) (aW (bL rfl) bY))))) ?_
  ·refine dL 1 28 rfl rfl fun _ a w G1 hG HT H fin=>?_;refine bD pQ (cs:=[_,_,_,_,_]) H wn rfl rfl (H.hp.dY 0 rfl rfl) rfl ?_;clear H;intro a H;exact fin H iJ rfl
  ·refine dz 0 27 2 29 rfl rfl fun _ a w G1 hG HT H fin=>?_;refine gN Eb (Li:=[_,_]) (L:=fD b ms ml mr mb mu s1.n :: (mb,fB (fE s1.bE)) :: L) H wn rfl (Es _ _ _ st li rv b ms ml mr mb mu _ (aew.mono hG) (Hp.owns (Li:=[_,_]) H.hp) 9 l[k].head _ _ _ (zR.mono hG) (by omega)) rfl ?_;clear H;rintro v30 _ _ a w ⟨rfl,rfl,rfl⟩ Na H;dsimp only [lca,aZ] at H;exact fin H Na (rfl)
  ·refine dL 7 34 rfl rfl fun _ a w G1 hG HT H fin=>?_;refine s_call iL H wn rfl (iN _ _ H.ro _ 11) rfl ?_;clear H;rintro v35 Qk a w ⟨rfl,-⟩ Nb H;exact fin H Nb (rfl)
  ·refine dL 12 39 rfl rfl fun _ a w G1 hG HT H fin=>?_;refine s_call iL H wn rfl (iN _ _ H.ro _ 9) rfl ?_;clear H;rintro v40 KN a w ⟨rfl,-⟩ adT H;exact fin H adT (rfl)
  clear H;intro a w G qK H hv;have H:=H.aQ (hv 3 30 rfl rfl) rfl;have H:=H.aQ (hv 8 35 rfl rfl) rfl;have H:=H.aQ (hv 13 40 rfl rfl) rfl;clear hv;refine gQ nJ fV [_,_,_] [_,_,_] H wn rfl rfl rfl rfl rfl (by intro i q h;match i,h with|0,h=>exact h|1,h=>exact h|2,h=>exact h|n+3,h=>simp at h) rfl rfl ?_;clear H;intro b41 a w ajG H;obtain ⟨KO,Ut,aep,H⟩:=H.dP;have Ul:∀ b o,Gt b=some o→KO b=some o:=fun b o h=>Ut _ _ (qK _ _ (hgm _ _ h));refine s_call oD H wn rfl (oF _ _ H.ro _ _ (C9 [iw (aT st li rv) 9 l[k].head,bW (decide ((l[k].cells.length:Int)=0)) 11,bW (decide (32 < (l[k].cells.length:Int))) 9] aep (show 3≤maxLen by decide))) rfl ?_;clear H;rintro v42 _ a w ⟨rfl,rfl⟩ - H;refine kH H (Ra rfl ?_);clear H;intro a H;refine aH ⟨rfl,?_⟩;refine dJ _ _ ?_;clear dJ;refine kP H (SR fun _ dN=>Rm rfl (Rc rfl (Kz dN (Cd rfl ?_ ?_)))) <;> clear H dN
  ·intro pE a H
   try have p44:=dT pE
   have e44:Dr (aT st li rv) l[k].head l[k].cells.length≠0:=p44
   have hF1:(kQ l.length (fun s=>iG (aT st li rv) note t l s) s).1=Dr (aT st li rv) l[k].head l[k].cells.length:=by rw [hE,hR,Iy (r:=(Dr (aT st li rv) l[k].head l[k].cells.length,s1)) e44,Iy e44]
   have hF2:(kQ l.length (fun s=>iG (aT st li rv) note t l s) s).1=0→s1=(kQ l.length (fun s=>iG (aT st li rv) note t l s) s).2:=fun h=>absurd (hF1.symm.trans h) e44;exact kP H (SR fun _ dx=>Rm rfl (ak dx rfl (LR results129 rfl fun H=>H.hp.gM (L':=fD b ms ml mr mb mu s1.n :: (mb,fB (fE s1.bE)) :: L) (by repeat (first|exact iD _|apply List.Sublist.cons)) ⟨s1,aA vi hF1.symm,rfl,hF2⟩)))
  intro pE a H
  try have p44:=dF pE
  have e44:Dr (aT st li rv) l[k].head l[k].cells.length=0:=lY.1 p44;rw [Fy (r:=(Dr (aT st li rv) l[k].head l[k].cells.length,s1)) e44] at hR;dsimp only at hR;have aex:=hck.mono Ul;replace hcl:=hcl.mono (fun b o h=>Ut _ _ (qK b o h));refine kP H (Kc bP (SR fun _ eu=>aR vC vQ 0 rfl rfl (Rl pU rfl (Rm rfl (Kz eu (SB ?_))))));clear H bP eu;intro a H;skip;refine eZ (ι:=Nat × CS × GH) (Tc:=[(0,_),(5,_),(21,_),(22,_),(23,_),(47,_),(48,_)]) (Lc:=[(_,_),(_,_)]) (fun gh=>[(49,vi gh.1)]) (fun gh=>[fD b ms ml mr mb mu gh.2.1.n,(mb,fB (fE gh.2.1.bE))]++L) (fun gh=>gh.2.2) (fun gh=>gh.1≤l[k].cells.length∧(∀ b o,KO b=some o→gh.2.2 b=some o)∧iG (aT st li rv) note t l s=fG (qI (aT st li rv) note t (l[k].cells.drop gh.1) gh.2.1) (fun s=>iG (aT st li rv) note t (l.drop (k+1)) s)∧0≤gh.2.1.n∧gh.2.1.n+(iZ (l[k].cells.drop gh.1):Nat)+(gT (l.drop (k+1)):Nat)≤1099511627776) (fun gh=>l[k].cells.length - gh.1) ((0,s1,KO)) (by exact (H).sub ⟨rfl,rfl,rfl,rfl,rfl,rfl,rfl,rfl,aB⟩) ?_ ?_
  ·exact ⟨iK _,fun _ _ h=>h,hR,hn0,by dsimp only;rw [tZ];omega⟩
  clear H;intro gh a w hI H;obtain ⟨c,s2,g2⟩:=gh;dsimp only at hI H;obtain ⟨hc,Jk,hR2,hm0,hm1⟩:=hI;have nR:=fun b o h=>Jk b o (Ul b o h);dsimp only [lca,aZ] at H;refine kP H (SR fun _ gy=>Rc rfl (Kz gy (SQ fun _ fu=>Cd rfl ?_ ?_))) <;> clear H gy
  ·intro h50 a H
   try have p50:=dT h50
   have hk4:c < l[k].cells.length:=by omega
   have afq:=KE hk4
   have aeB:iZ (l[k].cells.drop c)=1+cB l[k].cells[c].dat+iZ (l[k].cells.drop (c+1)):=by simp only [iZ];rw [lG hk4,eY,eD]
   have hcz:=Aq l[k].cells[c];obtain ⟨b3',o3,sA,sn,sc,tA,tn,tc,uA,un,uc,gA,gn,gc,rfl,hrow,hch,hcf⟩:=FB hk4 (hcl.mono Jk).at_;have NC:=aex.mono Jk;rw [lG hk4,qI,IE] at hR2;obtain ⟨y,hy⟩:∃ y,y=l[k].cells[c]:=⟨_,rfl⟩;rw [← hy] at hR2 hrow hch hcf hcz afq aeB;refine kP H (Kc fu (SQ fun _ gD=>SB (SR fun _ jc=>Ri pU lT rfl rfl ?_)));clear H fu;intro a H;refine bD lT (cs:=[_,_,_,_,_,_,_]) H wn rfl rfl (fun j v hj=>H.hp.aJ (hrow j v hj)) rfl ?_;clear H;intro a H;refine eU lT H wn rfl ?_;clear H;intro b11 a w Jf H;refine bF lT 0 (vs:=[_,_,_,_,_,_,_]) _ H wn rfl rfl rfl rfl rfl rfl rfl rfl ?_;clear H;intro w H;dsimp only [List.set,setRow] at H;refine jc _ _ ?_;clear jc;refine kP H (SQ fun _ kg=>SR fun _ jR=>Rm rfl (aR FX aG 0 rfl rfl ?_));clear H;intro a H;refine gN Mg (Li:=[_,_,_]) (L:=fD b ms ml mr mb mu s2.n :: (mb,fB (fE s2.bE)) :: L) H wn rfl (LJ _ _ _ st li rv b ms ml mr mb mu _ s2.bE y.id NC (Hp.owns (Li:=[_,_,_]) H.hp)) rfl ?_;clear H;rintro v56 _ _ a w ⟨rfl,rfl,rfl⟩ - H;dsimp only [lca,aZ] at H;refine kH H (ak jR rfl (SR fun _ jy=>Rm rfl (Rc rfl (Kz jy (Cd rfl ?_ ?_))))) <;> clear H jR jy
   ·intro jr a H
    try have p58:=dT jr
    have hF1:(kQ l.length (fun s=>iG (aT st li rv) note t l s) s).1=oH s2.bE y.id:=by rw [hE,hR2];simp [fG,jC,p58]
    have hF2:(kQ l.length (fun s=>iG (aT st li rv) note t l s) s).1=0→(⟨s2.n,jB s2.bE y.id⟩:CS)=(kQ l.length (fun s=>iG (aT st li rv) note t l s) s).2:=fun h=>absurd (hF1.symm.trans h) p58;exact kP H (SR fun _ kE=>Rm rfl (ak kE rfl (LR results129 rfl fun H=>H.hp.gM (L':=fD b ms ml mr mb mu s2.n :: (mb,fB (fE (jB s2.bE y.id))) :: L) (by repeat (first|exact iD _|apply List.Sublist.cons)) ⟨⟨s2.n,jB s2.bE y.id⟩,aA vi hF1.symm,rfl,hF2⟩)))
   intro jr a H
   try have p58:=dF jr
   have e58:oH s2.bE y.id=0:=lY.1 p58;refine kP H (Kc kg (SQ fun _ kF=>SR fun _ jd=>Rm rfl (Rf TJ rfl ?_)));clear H kg;intro a H;refine bD pQ (cs:=[_,_,_,_,_]) H wn rfl rfl (H.hp.dY 0 rfl rfl) rfl ?_;clear H;intro a H;refine gN Eb (Li:=[_,_,_]) (L:=fD b ms ml mr mb mu s2.n :: (mb,fB (fE (jB s2.bE y.id))) :: L) H wn rfl (Es _ _ _ st li rv b ms ml mr mb mu _ NC (Hp.owns (Li:=[_,_,_]) H.hp) 10 y.head _ _ _ hch (by omega)) rfl ?_;clear H;rintro v63 _ _ a w ⟨rfl,rfl,rfl⟩ - H;dsimp only [lca,aZ] at H;refine kH H (ak jd rfl (SR fun _ nL=>Rm rfl (Rc rfl (Kz nL (Cd rfl ?_ ?_))))) <;> clear H jd nL
   ·intro qj a H
    try have p65:=dT qj
    have hF1:(kQ l.length (fun s=>iG (aT st li rv) note t l s) s).1=iw (aT st li rv) 10 y.head:=by rw [hE,hR2];simp [fG,jC,e58,p65]
    have hF2:(kQ l.length (fun s=>iG (aT st li rv) note t l s) s).1=0→(⟨s2.n,jB s2.bE y.id⟩:CS)=(kQ l.length (fun s=>iG (aT st li rv) note t l s) s).2:=fun h=>absurd (hF1.symm.trans h) p65;exact kP H (SR fun _ og=>Rm rfl (ak og rfl (LR results129 rfl fun H=>H.hp.gM (L':=fD b ms ml mr mb mu s2.n :: (mb,fB (fE (jB s2.bE y.id))) :: L) (by repeat (first|exact iD _|apply List.Sublist.cons)) ⟨⟨s2.n,jB s2.bE y.id⟩,aA vi hF1.symm,rfl,hF2⟩)))
   intro qj a H
   try have p65:=dF qj
   have e65:iw (aT st li rv) 10 y.head=0:=lY.1 p65;refine kP H (Kc kF (SR fun _ oP=>Rm rfl (aR Ej gZ 0 rfl rfl ?_)));clear H kF;intro a H;refine bD Kl (cs:=[_,_,_]) H wn rfl rfl (H.hp.dY 2 rfl rfl) rfl ?_;clear H;intro a H;refine gN FL (Li:=[_,_,_]) (L:=fD b ms ml mr mb mu s2.n :: (mb,fB (fE (jB s2.bE y.id))) :: L) H wn rfl (ih _ _ _ st li rv b ms ml mr mb mu ⟨s2.n,jB s2.bE y.id⟩ y.flow _ false note t NC (Hp.owns (Li:=[_,_,_]) H.hp) hcf (by omega) ht0 CX hm0 (by dsimp only;omega)) rfl ?_;clear H;rintro v71 _ _ a w ⟨rfl,s3,rfl,rfl,h3⟩ - H;dsimp only [lca,aZ] at H;refine kH H (ak oP rfl (SR fun _ pW=>Rm rfl (Rc rfl (Kz pW (Cd rfl ?_ ?_))))) <;> clear H oP pW
   ·intro MW a H
    try have p73:=dT MW
    have hF1:(kQ l.length (fun s=>iG (aT st li rv) note t l s) s).1=(iY (aT st li rv) false note t y.flow ⟨s2.n,jB s2.bE y.id⟩).1:=by rw [hE,hR2];simp [fG,jC,e58,e65,p73]
    have hF2:(kQ l.length (fun s=>iG (aT st li rv) note t l s) s).1=0→s3=(kQ l.length (fun s=>iG (aT st li rv) note t l s) s).2:=fun h=>absurd (hF1.symm.trans h) p73;exact kP H (SR fun _ oQ=>Rm rfl (ak oQ rfl (LR results129 rfl fun H=>H.hp.gM (L':=fD b ms ml mr mb mu s3.n :: (mb,fB (fE s3.bE)) :: L) (by repeat (first|exact iD _|apply List.Sublist.cons)) ⟨s3,aA vi hF1.symm,rfl,hF2⟩)))
   intro MW a H
   try have p73:=dF MW
   have Ma:(iY (aT st li rv) false note t y.flow ⟨s2.n,jB s2.bE y.id⟩).1=0:=lY.1 p73;obtain ⟨hu1,hu2⟩:=KA (aT st li rv) false note t y.flow ⟨s2.n,jB s2.bE y.id⟩;rw [← h3 Ma] at hu1 hu2;dsimp only at hu1 hu2
   have hS:fG (fG (fG (jC s2 y.id) fun s=>fG (iw (aT st li rv) 10 y.head,s) fun s=>iY (aT st li rv) false note t y.flow s) fun s=>qI (aT st li rv) note t (l[k].cells.drop (c+1)) s) (fun s=>iG (aT st li rv) note t (l.drop (k+1)) s)=fG (qI (aT st li rv) note t (l[k].cells.drop (c+1)) s3) (fun s=>iG (aT st li rv) note t (l.drop (k+1)) s):=by
    rw [h3 Ma];simp [fG,jC,e58,e65,Ma]
   refine kP H (Kc gD (SC (Rd rfl (Rm rfl ?_))));clear H gD;intro a H;refine aH ?_;refine dw ((c+1,s3,g2)) (by exact (H.dU (Pl:=[_,_,_,_,_]) (cK:=[_,_,_,_]) [1,2,3,4] (by decide) rfl).sub ⟨rfl,rfl,rfl,rfl,rfl,rfl,rfl,rfl,aB⟩) ?_ ?_
   ·(try dsimp only);exact ⟨by omega,Jk,hR2.trans hS,by omega,by omega⟩
   first|omega|(dsimp only;omega)
  intro h50 a H
  try have p50:=dF h50
  refine dW ?_;refine bK _ _ ?_;clear bK;refine kP H (SC (Rd rfl (Rm rfl ?_)));clear H;intro a H;refine aH ?_;refine dw ((k+1,s2,g2)) (by exact (H.dU (Pl:=[_,_,_,_]) (cK:=[_,_,_]) [1,2,3] (by decide) rfl).sub ⟨rfl,rfl,rfl,rfl,rfl,aB⟩) ?_ ?_
  ·(try dsimp only);exact ⟨by omega,nR,by rw [hR2,iC (by omega),qI,Fy rfl],hm0,by omega⟩
  first|omega|(dsimp only;omega)
 intro dQ a H
 try have jO:=dF dQ
 refine dW ?_;refine K8 _ _ ?_;clear K8;refine bq (fun _ rE=>?_)
 have hF1:(kQ l.length (fun s=>iG (aT st li rv) note t l s) s).1=0:=by rw [hE,hR,iC (by omega),iG]
 have hF2:(kQ l.length (fun s=>iG (aT st li rv) note t l s) s).1=0→s1=(kQ l.length (fun s=>iG (aT st li rv) note t l s) s).2:=fun h=>by rw [hE,hR,iC (by omega),iG]
 exact kP H (SC (aV rE rfl (LR results129 rfl fun H=>H.hp.gM (L':=fD b ms ml mr mb mu s1.n :: (mb,fB (fE s1.bE)) :: L) (by repeat (first|exact iD _|apply List.Sublist.cons)) ⟨s1,aA vi hF1.symm,rfl,hF2⟩)))
end
section
open Go.RowKit
theorem abj:∀ args w,(callFunc 129 args).run prog w=.ok (.enter 129 args) w:=enters func129 rfl (by kernel_rfl)
theorem abh:∀ args w,(callFunc 127 args).run prog w=.ok (.enter 127 args) w:=enters func127 rfl (by kernel_rfl)
theorem Cn:bV prog 147 5 5:=⟨by kernel_rfl⟩
theorem acT:bV prog 106 0 0:=⟨by kernel_rfl⟩
theorem agK {G:GH} {b:Nat} {x:Int} (h:G b=some (.cells #[vi x] 56 (0,0))):av G (.sl 1 ([x].map fun k=>[li k])) (.slice (some ⟨b,0,none⟩) 1 1):=C9 [x] h (show 1≤maxLen by decide)
theorem afJ {m:Nat} (ih:DL m) (hm:m≤4294967296) (Gt:GH) (L:OL) (w0:World) (st:List bM) (li:List fI) (rv:List eX) (b ms ml mr mb mu:Nat) (s:CS) (x:ay) (p d y f r:aj) (body note:Bool) (t:Int)
  (hck:sF Gt st li rv ms ml mr mu) (hO:gW Gt (fD b ms ml mr mb mu s.n :: (mb,fB (fE s.bE)) :: L) w0) (hh:jl Gt x.head p d y) (hf:av Gt (.sl 11 (x.flow.map ay.dat)) f) (hr:av Gt (.sl 6 (x.rows.map bO.dat)) r) (hz:cB x.dat≤m) (ht0:0≤t) (CX:t≤4) (hs0:0≤s.n) (hs1:s.n+(cB x.dat:Nat)≤1099511627776) :
  Calls prog 95 #[(aI b 0),.agg #[vi x.kind,vi x.code,vi x.id,.string x.text,p,vi x.head.marks.ins,vi x.head.marks.move,d,y,f,r],.agg #[.bool body,.bool note,vi t]] w0 (gF w0 Gt (fD b ms ml mr mb mu s.n :: (mb,fB (fE s.bE)) :: L) fun u G' L'=>H8 b ms ml mr mb mu L (eF (aT st li rv) body note t x s) u L'):=by
 obtain ⟨pA,pn,pc,rfl⟩:=hh.props.form;obtain ⟨dA,dn,dc,rfl⟩:=hh.bZ.form;obtain ⟨lA,ln,lc,rfl⟩:=hh.layers.form;obtain ⟨fA,fc,rfl,-⟩:=hf.slice;obtain ⟨rA,rc,rfl,-⟩:=hr.slice;(iterate 2 rw [bT] at *);have hxz:=nZ x;have hcl:=FH x.text
 have CY:dV x≤x.text.size+1:=by unfold dV;split <;> omega
 have hE:=Oo (aT st li rv) body note t x s;refine jN (N:=117) (T:=[(0,_),(1,_),(2,_)]) func95 rfl ntmps95 rfl rfl hO ?_;intro a H;refine cO (fun _ K1=>?_);refine fC (cs:=[_,_,_,_,_,_,_,_,_,_,_]) H wn rfl rfl rfl ?_;clear H;intro b4 a w hb4 H;refine fC (cs:=[_,_,_]) H wn rfl rfl rfl ?_;clear H;intro b5 a w hb5 H;refine kH H (ak K1 rfl (SQ fun _ K2=>SR fun _ K3=>?_));clear H K1;intro a H;refine bD dB (cs:=[_,_,_,_,_,_,_,_,_,_,_]) H wn rfl rfl (H.hp.dY 1 rfl rfl) rfl ?_;clear H;intro a H;refine s_call abh H wn rfl (adG _ _ H.ro x _ _ _ _ _ _ _ (by omega)) rfl ?_;clear H;rintro v15 _ a w ⟨rfl,rfl⟩ - H;refine kH H (ak K3 rfl (SR fun _ K4=>Rm rfl (Rc rfl (Kz K4 (Cd rfl ?_ ?_))))) <;> clear H K3 K4
 ·intro dS a H
  try have lS:=dT dS
  rw [Iy (r:=(jW x,s)) lS] at hE;exact kP H (SR fun _ K5=>Rm rfl (ak K5 rfl (LR results95 rfl fun H=>H.hp.gM (L':=fD b ms ml mr mb mu s.n :: (mb,fB (fE s.bE)) :: L) (by repeat (first|exact iD _|apply List.Sublist.cons)) ⟨s,by rw [hE],rfl,fun h=>by rw [hE]⟩)))
 intro dS a H
 try have lS:=dF dS
 rw [Fy (r:=(jW x,s)) (lY.1 lS)] at hE;dsimp only at hE;refine kP H (Kc K2 (SR fun _ K6=>Rm rfl (Rk rfl (aR Cn aG 2 rfl rfl (Rd rfl (Rk rfl (Rf Cn rfl ?_)))))));clear H K2;intro a H;refine bF aG 2 (vs:=[_]) _ H wn rfl rfl rfl rfl rfl rfl rfl rfl ?_;clear H;intro w H;dsimp only [List.set,setRow] at H;refine K6 _ _ ?_;clear K6;refine qd (ι:=CS × GH) (Tc:=[(0,_),(4,_),(5,_)]) (Lc:=[(_,_),(_,_)]) (fun gh=>[]) (fun gh=>[fD b ms ml mr mb mu gh.1.n,(mb,fB (fE gh.1.bE))]++L) (fun gh=>gh.2) (fun gh=>jP body note t x.kind x.id ⟨s.n+(dV x:Nat),s.bE⟩=(0,gh.1)∧(∀ b o,Gt b=some o→gh.2 b=some o)∧gh.1.n=s.n+(dV x:Nat)∧(x.kind=7→t < 4)) (by exact (H).sub ⟨rfl,rfl,rfl,aB⟩) ?_ ?_
 ·skip;refine kP H (SR fun _ K7=>aR jh aG 1 rfl rfl (Kz K7 (SB (SR fun _ K8=>Rc rfl (ak K8 rfl (Cd rfl ?_ ?_)))))) <;> clear H K7 K8
  ·intro eP a H
   try have p28:=dT eP
   have hu:((dV x:Nat):Int)=uZ x.text:=by rw [dV,au p28]
   refine kP H (SR fun _ K9=>aR sS fZ 1 rfl rfl ?_);clear H;intro a H;refine s_call Mt H wn rfl (LU _ _ H.ro x.text (by omega)) rfl ?_;clear H;rintro v33 _ a w ⟨rfl,rfl⟩ - H;refine kH H (Rm rfl ?_);clear H;intro a H;(iterate 2 refine lu H wn rfl rfl rfl ?_;clear H;intro a H);refine kH H (Ra rfl (ak K9 rfl (SC (Rm rfl (Rk rfl (aR Cn aG 2 rfl rfl (Rm rfl (Rs rfl (Rd rfl ?_)))))))));clear H K9;intro a H;rw [show s.n+1+((uZ x.text:Int) - 1)=s.n+(dV x:Nat) by omega] at H;refine kH H (Rk rfl (Rf Cn rfl ?_));clear H;intro a H;refine bF aG 2 (vs:=[_]) _ H wn rfl rfl rfl rfl rfl rfl rfl rfl ?_;clear H;intro w H;dsimp only [List.set,setRow] at H;refine aH ?_;refine ⟨(⟨s.n+(dV x:Nat),s.bE⟩,Gt),by exact (H).sub ⟨rfl,rfl,rfl,aB⟩,?_⟩;(try dsimp only)
   first
   | exact ⟨by simp_all [jP,bW,fG,jC],fun _ _ h=>h,rfl,fun h7=>by first|omega|(exfalso;simp_all)⟩
   | exact ⟨by simp_all [jP,bW,fG,jC],tq,rfl,fun h7=>by first|omega|(exfalso;simp_all)⟩
  intro eP a H
  try have p28:=dF eP
  have hu:((dV x:Nat):Int)=1:=by rw [dV,ah p28];rfl
  rw [show s.n+1=s.n+((dV x:Nat):Int) by omega] at H;refine kP H (SR fun _ aS=>Rc rfl (ak aS rfl (Cd rfl ?_ ?_))) <;> clear H aS
  ·intro h45 a H
   try have p45:=dT h45
   refine kP H (SR fun _ bA=>aR acT xg 0 rfl rfl (Rn rfl (Kz bA (Cd rfl ?_ ?_)))) <;> clear H bA
   ·intro Ja a H
    try have p49:=dT Ja
    refine bq (fun _ bK=>?_)
    have hF1:(eF (aT st li rv) body note t x s).1=19:=by rw [hE];simp [fG,jP,p45,bW,Ja]
    have hF2:(eF (aT st li rv) body note t x s).1=0→(⟨s.n+(dV x:Nat),s.bE⟩:CS)=(eF (aT st li rv) body note t x s).2:=fun h=>absurd (hF1.symm.trans h) (by decide);exact kP H (SC (aV bK rfl (LR results95 rfl fun H=>H.hp.gM (L':=fD b ms ml mr mb mu (s.n+(dV x:Nat)) :: (mb,fB (fE (s.bE))) :: L) (by repeat (first|exact iD _|apply List.Sublist.cons)) ⟨⟨s.n+(dV x:Nat),s.bE⟩,aA vi hF1.symm,rfl,hF2⟩)))
   intro Ja a H
   try have p49:=dF Ja
   refine fO ?_;refine ⟨(⟨s.n+(dV x:Nat),s.bE⟩,Gt),by exact (H).sub ⟨rfl,rfl,rfl,aB⟩,?_⟩;(try dsimp only)
   first
   | exact ⟨by simp_all [jP,bW,fG,jC],fun _ _ h=>h,rfl,fun h7=>by first|omega|(exfalso;simp_all)⟩
   | exact ⟨by simp_all [jP,bW,fG,jC],tq,rfl,fun h7=>by first|omega|(exfalso;simp_all)⟩
  intro h45 a H
  try have p45:=dF h45
  refine kP H (SR fun _ bR=>Rc rfl (ak bR rfl (Cd rfl ?_ ?_))) <;> clear H bR
  ·intro h50 a H
   try have p50:=dT h50
   refine kP H (SQ fun _ bP=>SR fun _ dJ=>aR MB xg 0 rfl rfl ?_);clear H;intro a H;refine s_call iL H wn rfl (iN _ _ H.ro _ 19) rfl ?_;clear H;rintro v54 _ a w ⟨rfl,rfl⟩ - H;refine gQ nJ fV [_] [_] H wn rfl rfl rfl rfl rfl (by intro i q h;match i,h with|0,h=>exact h|n+1,h=>simp at h) rfl rfl ?_;clear H;intro b55 a w ajI H;obtain ⟨Ii,tq,aes,H⟩:=H.dP;refine s_call oD H wn rfl (oF _ _ H.ro _ _ (agK aes)) rfl ?_;clear H;rintro v56 _ a w ⟨rfl,rfl⟩ - H;refine kH H (ak dJ rfl (SR fun _ dN=>Rm rfl (Rc rfl (Kz dN (Cd rfl ?_ ?_))))) <;> clear H dJ dN
   ·intro jr a H
    try have p58:=dT jr
    have e58:bW note 19≠0:=fun h=>p58 (by rw [h];rfl)
    have afv:cZ [bW note 19]=bW note 19:=by simp [cZ,e58]
    rw [afv] at H
    have hF1:(eF (aT st li rv) body note t x s).1=bW note 19:=by rw [hE];simp [fG,jP,p50,e58]
    have hF2:(eF (aT st li rv) body note t x s).1=0→(⟨s.n+(dV x:Nat),s.bE⟩:CS)=(eF (aT st li rv) body note t x s).2:=fun h=>absurd (hF1.symm.trans h) (e58);exact kP H (SR fun _ dx=>Rm rfl (ak dx rfl (LR results95 rfl fun H=>H.hp.gM (L':=fD b ms ml mr mb mu (s.n+(dV x:Nat)) :: (mb,fB (fE (s.bE))) :: L) (by repeat (first|exact iD _|apply List.Sublist.cons)) ⟨⟨s.n+(dV x:Nat),s.bE⟩,aA vi hF1.symm,rfl,hF2⟩)))
   intro jr a H
   try have p58:=dF jr
   have e58:bW note 19=0:=Decidable.byContradiction fun h=>p58 (by simp [cZ,h]);refine kP H (Kc bP (SR fun _ eu=>Rm rfl (aR zq aG 1 rfl rfl ?_)));clear H bP;intro a H;refine gN Mg (Li:=[_,_]) (L:=fD b ms ml mr mb mu _ :: (mb,fB (fE s.bE)) :: L) H wn rfl (LJ _ _ _ st li rv b ms ml mr mb mu _ s.bE x.id (hck.mono tq) (Hp.owns (Li:=[_,_]) H.hp)) rfl ?_;clear H;rintro v63 _ _ a w ⟨rfl,rfl,rfl⟩ - H;dsimp only [lca,aZ] at H;refine kH H (ak eu rfl (SR fun _ gy=>Rm rfl (Rc rfl (Kz gy (Cd rfl ?_ ?_))))) <;> clear H eu gy
   ·intro qj a H
    try have p65:=dT qj
    have hF1:(eF (aT st li rv) body note t x s).1=oH s.bE x.id:=by rw [hE];simp [fG,jP,p50,e58,jC,p65]
    have hF2:(eF (aT st li rv) body note t x s).1=0→(⟨s.n+(dV x:Nat),jB s.bE x.id⟩:CS)=(eF (aT st li rv) body note t x s).2:=fun h=>absurd (hF1.symm.trans h) (p65);exact kP H (SR fun _ fu=>Rm rfl (ak fu rfl (LR results95 rfl fun H=>H.hp.gM (L':=fD b ms ml mr mb mu (s.n+(dV x:Nat)) :: (mb,fB (fE (jB s.bE x.id))) :: L) (by repeat (first|exact iD _|apply List.Sublist.cons)) ⟨⟨s.n+(dV x:Nat),jB s.bE x.id⟩,aA vi hF1.symm,rfl,hF2⟩)))
   intro qj a H
   try have p65:=dF qj
   have e65:oH s.bE x.id=0:=lY.1 p65;refine fO ?_;refine ⟨(⟨s.n+(dV x:Nat),jB s.bE x.id⟩,Ii),by exact (H).sub ⟨rfl,rfl,rfl,aB⟩,?_⟩;(try dsimp only)
   first
   | exact ⟨by simp_all [jP,bW,fG,jC],fun _ _ h=>h,rfl,fun h7=>by first|omega|(exfalso;simp_all)⟩
   | exact ⟨by simp_all [jP,bW,fG,jC],tq,rfl,fun h7=>by first|omega|(exfalso;simp_all)⟩
  intro h50 a H
  try have p50:=dF h50
  refine kP H (SR fun _ gD=>Rc rfl (ak gD rfl (Cd rfl ?_ ?_))) <;> clear H gD
  ·intro MU a H
   try have p67:=dT MU
   refine kP H (SQ fun _ jc=>SR fun _ kg=>aR FN aG 0 rfl rfl (Rc rfl (Kz kg (Cd rfl ?_ ?_)))) <;> clear H kg
   ·intro MV a H
    try have p71:=dT MV
    refine bq (fun _ jR=>?_)
    have hF1:(eF (aT st li rv) body note t x s).1=17:=by rw [hE];simp [fG,jP,p67,bW,p71]
    have hF2:(eF (aT st li rv) body note t x s).1=0→(⟨s.n+(dV x:Nat),s.bE⟩:CS)=(eF (aT st li rv) body note t x s).2:=fun h=>absurd (hF1.symm.trans h) (by decide);exact kP H (SC (aV jR rfl (LR results95 rfl fun H=>H.hp.gM (L':=fD b ms ml mr mb mu (s.n+(dV x:Nat)) :: (mb,fB (fE (s.bE))) :: L) (by repeat (first|exact iD _|apply List.Sublist.cons)) ⟨⟨s.n+(dV x:Nat),s.bE⟩,aA vi hF1.symm,rfl,hF2⟩)))
   intro MV a H
   try have p71:=dF MV
   have e71:¬ 4≤t:=by omega
   refine kP H (Kc jc (SR fun _ jy=>Rm rfl (aR zq aG 1 rfl rfl ?_)));clear H jc;intro a H;refine gN Mg (Li:=[_,_]) (L:=fD b ms ml mr mb mu _ :: (mb,fB (fE s.bE)) :: L) H wn rfl (LJ _ _ _ st li rv b ms ml mr mb mu _ s.bE x.id hck (Hp.owns (Li:=[_,_]) H.hp)) rfl ?_;clear H;rintro v75 _ _ a w ⟨rfl,rfl,rfl⟩ - H;dsimp only [lca,aZ] at H;refine kH H (ak jy rfl (SR fun _ kE=>Rm rfl (Rc rfl (Kz kE (Cd rfl ?_ ?_))))) <;> clear H jy kE
   ·intro CF a H
    try have EI:=dT CF
    have hF1:(eF (aT st li rv) body note t x s).1=oH s.bE x.id:=by rw [hE];simp [fG,jP,p67,bW,e71,jC,EI]
    have hF2:(eF (aT st li rv) body note t x s).1=0→(⟨s.n+(dV x:Nat),jB s.bE x.id⟩:CS)=(eF (aT st li rv) body note t x s).2:=fun h=>absurd (hF1.symm.trans h) (EI);exact kP H (SR fun _ kF=>Rm rfl (ak kF rfl (LR results95 rfl fun H=>H.hp.gM (L':=fD b ms ml mr mb mu (s.n+(dV x:Nat)) :: (mb,fB (fE (jB s.bE x.id))) :: L) (by repeat (first|exact iD _|apply List.Sublist.cons)) ⟨⟨s.n+(dV x:Nat),jB s.bE x.id⟩,aA vi hF1.symm,rfl,hF2⟩)))
   intro CF a H
   try have EI:=dF CF
   have e77:oH s.bE x.id=0:=lY.1 EI;refine fO ?_;refine ⟨(⟨s.n+(dV x:Nat),jB s.bE x.id⟩,Gt),by exact (H).sub ⟨rfl,rfl,rfl,aB⟩,?_⟩;(try dsimp only)
   first
   | exact ⟨by simp_all [jP,bW,fG,jC],fun _ _ h=>h,rfl,fun h7=>by first|omega|(exfalso;simp_all)⟩
   | exact ⟨by simp_all [jP,bW,fG,jC],tq,rfl,fun h7=>by first|omega|(exfalso;simp_all)⟩
  intro MU a H
  try have p67:=dF MU
  refine kP H (SR fun _ jd=>Rc rfl (ak jd rfl (Cd rfl ?_ ?_))) <;> clear H jd
  ·intro AY a H
   try have OW:=dT AY
   refine kP H (SR fun _ nL=>aR zq aG 1 rfl rfl ?_);clear H;intro a H;refine s_call uj H wn rfl (uF _ _ H.ro x.id 1 1073741824) rfl ?_;clear H;rintro v83 _ a w ⟨rfl,rfl⟩ - H;refine kH H (Rn rfl (Kz nL (Cd rfl ?_ ?_))) <;> clear H nL
   ·intro h84 a H
    try have p84:=dT h84
    refine bq (fun _ og=>?_)
    have e84:¬ (1≤x.id∧x.id≤1073741824):=by have h0:=h84;simp at h0;omega
    have hF1:(eF (aT st li rv) body note t x s).1=18:=by rw [hE];simp [fG,jP,OW,bW,e84]
    have hF2:(eF (aT st li rv) body note t x s).1=0→(⟨s.n+(dV x:Nat),s.bE⟩:CS)=(eF (aT st li rv) body note t x s).2:=fun h=>absurd (hF1.symm.trans h) (by decide);exact kP H (SC (aV og rfl (LR results95 rfl fun H=>H.hp.gM (L':=fD b ms ml mr mb mu (s.n+(dV x:Nat)) :: (mb,fB (fE (s.bE))) :: L) (by repeat (first|exact iD _|apply List.Sublist.cons)) ⟨⟨s.n+(dV x:Nat),s.bE⟩,aA vi hF1.symm,rfl,hF2⟩)))
   intro h84 a H
   try have p84:=dF h84
   refine fO ?_;refine ⟨(⟨s.n+(dV x:Nat),s.bE⟩,Gt),by exact (H).sub ⟨rfl,rfl,rfl,aB⟩,?_⟩;(try dsimp only)
   first
   | exact ⟨by simp_all [jP,bW,fG,jC],fun _ _ h=>h,rfl,fun h7=>by first|omega|(exfalso;simp_all)⟩
   | exact ⟨by simp_all [jP,bW,fG,jC],tq,rfl,fun h7=>by first|omega|(exfalso;simp_all)⟩
  intro AY a H
  try have OW:=dF AY
  refine fO ?_;refine ⟨(⟨s.n+(dV x:Nat),s.bE⟩,Gt),by exact (H).sub ⟨rfl,rfl,rfl,aB⟩,?_⟩;(try dsimp only)
  first
  | exact ⟨by simp_all [jP,bW,fG,jC],fun _ _ h=>h,rfl,fun h7=>by first|omega|(exfalso;simp_all)⟩
  | exact ⟨by simp_all [jP,bW,fG,jC],tq,rfl,fun h7=>by first|omega|(exfalso;simp_all)⟩
 clear H;intro gh a w hI H;obtain ⟨s1,g⟩:=gh;dsimp only at hI H;obtain ⟨hP,uE,akd,ht7⟩:=hI;rw [hP,Fy rfl] at hE;dsimp only at hE;replace hck:=hck.mono uE;replace hh:=hh.mono uE;replace hf:=hf.mono uE;replace hr:=hr.mono uE;dsimp only [lca,aZ] at H;refine kP H (SQ fun _ oP=>SR fun _ pW=>Rm rfl (aR jh aG 1 rfl rfl (Rf AL rfl ?_)));clear H;intro a H;refine bD pQ (cs:=[_,_,_,_,_]) H wn rfl rfl (H.hp.dY 1 rfl rfl) rfl ?_;clear H;intro a H;refine gN Eb (Li:=[_,_]) (L:=fD b ms ml mr mb mu s1.n :: (mb,fB (fE s1.bE)) :: L) H wn rfl (Es _ _ _ st li rv b ms ml mr mb mu _ hck (Hp.owns (Li:=[_,_]) H.hp) x.kind x.head _ _ _ hh (by omega)) rfl ?_;clear H;rintro v90 _ _ a w ⟨rfl,rfl,rfl⟩ - H;dsimp only [lca,aZ] at H;refine kH H (ak pW rfl (SR fun _ oQ=>Rm rfl (Rc rfl (Kz oQ (Cd rfl ?_ ?_))))) <;> clear H pW oQ
 ·intro M4 a H
  try have JQ:=dT M4
  have hF1:(eF (aT st li rv) body note t x s).1=iw (aT st li rv) x.kind x.head:=by rw [hE,Iy (r:=(iw (aT st li rv) x.kind x.head,s1)) JQ]
  have hF2:(eF (aT st li rv) body note t x s).1=0→s1=(eF (aT st li rv) body note t x s).2:=fun h=>absurd (hF1.symm.trans h) JQ;exact kP H (SR fun _ rE=>Rm rfl (ak rE rfl (LR results95 rfl fun H=>H.hp.gM (L':=fD b ms ml mr mb mu (s1.n) :: (mb,fB (fE (s1.bE))) :: L) (by repeat (first|exact iD _|apply List.Sublist.cons)) ⟨s1,aA vi hF1.symm,rfl,hF2⟩)))
 intro M4 a H
 try have JQ:=dF M4
 rw [Fy (r:=(iw (aT st li rv) x.kind x.head,s1)) (lY.1 JQ)] at hE;dsimp only at hE;refine kP H (Kc oP (SQ fun _ tV=>SR fun _ qE=>aR jh aG 1 rfl rfl (Kz qE (SB (SR fun _ vT=>Rc rfl (ak vT rfl (Cd rfl ?_ ?_))))))) <;> clear H oP qE vT
 ·intro ql a H
  try have GU:=dT ql
  rw [au GU] at hE;refine kP H (SR fun _ BU=>Rm rfl (aR xR gZ 1 rfl rfl (aR FN aG 0 rfl rfl ?_)));clear H;intro a H;refine jJ Bw [_,_,_] H wn rfl rfl rfl rfl ?_;clear H;intro a H;refine gN FL (Li:=[_,_]) (L:=fD b ms ml mr mb mu s1.n :: (mb,fB (fE s1.bE)) :: L) H wn rfl (ih _ _ _ st li rv b ms ml mr mb mu s1 x.flow _ false true t hck (Hp.owns (Li:=[_,_]) H.hp) hf (by omega) ht0 CX (by omega) (by omega)) rfl ?_;clear H;rintro akr _ _ a w ⟨rfl,s3,rfl,rfl,h3⟩ - H;dsimp only [lca,aZ] at H
  have hF1:(eF (aT st li rv) body note t x s).1=(iY (aT st li rv) false true t x.flow s1).1:=by rw [hE]
  have hF2:(eF (aT st li rv) body note t x s).1=0→s3=(eF (aT st li rv) body note t x s).2:=by rw [hE];exact h3
  exact kH H (ak BU rfl (LR results95 rfl fun H=>H.hp.gM (L':=fD b ms ml mr mb mu (s3.n) :: (mb,fB (fE (s3.bE))) :: L) (by repeat (first|exact iD _|apply List.Sublist.cons)) ⟨s3,aA vi hF1.symm,rfl,hF2⟩))
 intro ql a H
 try have GU:=dF ql
 rw [ah GU] at hE;refine kP H (SR fun _ BX=>Rc rfl (ak BX rfl (Cd rfl ?_ ?_))) <;> clear H BX
 ·intro oG a H
  try have EH:=dT oG
  rw [au EH] at hE;refine kP H (SR fun _ oh=>Rm rfl (aR qg qz 1 rfl rfl (aR MB xg 0 rfl rfl (aR FN aG 0 rfl rfl (Rd rfl ?_)))));clear H;intro a H;refine jJ Bw [_,_,_] H wn rfl rfl rfl rfl ?_;clear H;intro a H;refine gN abj (Li:=[_,_]) (L:=fD b ms ml mr mb mu s1.n :: (mb,fB (fE s1.bE)) :: L) H wn rfl (rows_ok ih hm _ _ _ st li rv b ms ml mr mb mu s1 x.rows _ note (t+1) hck (Hp.owns (Li:=[_,_]) H.hp) hr (by omega) (by omega) (by have:=ht7 EH;omega) (by omega) (by omega)) rfl ?_;clear H;rintro aks _ _ a w ⟨s3,rfl,rfl,h3⟩ - H;dsimp only [lca,aZ] at H
  have hF1:(eF (aT st li rv) body note t x s).1=(kQ x.rows.length (fun s=>iG (aT st li rv) note (t+1) x.rows s) s1).1:=by rw [hE]
  have hF2:(eF (aT st li rv) body note t x s).1=0→s3=(eF (aT st li rv) body note t x s).2:=by rw [hE];exact h3
  exact kH H (ak oh rfl (LR results95 rfl fun H=>H.hp.gM (L':=fD b ms ml mr mb mu (s3.n) :: (mb,fB (fE (s3.bE))) :: L) (by repeat (first|exact iD _|apply List.Sublist.cons)) ⟨s3,aA vi hF1.symm,rfl,hF2⟩))
 intro oG a H
 try have EH:=dF oG
 rw [ah EH] at hE
 have hF1:(eF (aT st li rv) body note t x s).1=0:=by rw [hE]
 have hF2:(eF (aT st li rv) body note t x s).1=0→s1=(eF (aT st li rv) body note t x s).2:=fun h=>by rw [hE]
 exact kP H (Kc tV (SR fun _ DR=>ak DR rfl (LR results95 rfl fun H=>H.hp.gM (L':=fD b ms ml mr mb mu (s1.n) :: (mb,fB (fE (s1.bE))) :: L) (by repeat (first|exact iD _|apply List.Sublist.cons)) ⟨s1,aA vi hF1.symm,rfl,hF2⟩)))
end
section
open Go.RowKit
theorem acD:∀ args w,(callFunc 95 args).run prog w=.ok (.enter 95 args) w:=enters func95 rfl (by kernel_rfl)
theorem acC:∀ args w,(callFunc 94 args).run prog w=.ok (.enter 94 args) w:=enters func94 rfl (by kernel_rfl)
def Qp (fv:aj) (Gi:GH) (n:Nat) (E:Nat→Int) {σ:Type} (B:σ→OL) (S:Nat→σ):Prop:=∀ i,i < n→∀ (G1:GH) (w1:World),(∀ b o,Gi b=some o→G1 b=some o)→gW G1 (B (S i)) w1 →
 sD prog fv [vi i] w1 (gF w1 G1 (B (S i)) fun u G' L'=>∃ s,u=vi (E i)∧L'=B s∧(E i=0→s=S (i+1)))
theorem Y7 (G:GH) (w0:World) {σ:Type} (B:σ→OL) (S:Nat→σ) (n:Nat) (E:Nat→Int) (fv:aj) (hO:gW G (B (S 0)) w0) (hn:n≤4611686018427387904) (hf:Qp fv G n E B S) :
  Calls prog 84 #[vi n,fv] w0 (gF w0 G (B (S 0)) fun u G' L'=>∃ s,u=vi (jM E n)∧L'=B s∧(jM E n=0→s=S n)):=by
 refine jN (N:=18) (T:=[(0,_),(1,_)]) func84 rfl ntmps84 rfl rfl hO ?_;intro a H;refine kP H (SR fun _ K1=>ak K1 rfl (SQ fun _ K2=>SR fun _ K3=>Rm rfl (Rm rfl (Kz K3 (SB ?_)))));clear H K1 K3;intro a H;skip;refine eZ (ι:=Nat × GH) (Tc:=[(1,_),(7,_)]) (Lc:=[]) (fun gh=>[(8,vi gh.1)]) (fun gh=>[]++B (S gh.1)) (fun gh=>gh.2) (fun gh=>gh.1≤n∧cZ (((List.range n).map E).drop gh.1)=jM E n∧(∀ b o,G b=some o→gh.2 b=some o)) (fun gh=>n - gh.1) ((0,G)) (by exact (H).sub ⟨rfl,rfl,rfl,aB⟩) ?_ ?_
 ·exact ⟨iK _,rfl,fun _ _ h=>h⟩
 clear H;intro gh a w hI H;obtain ⟨k,g⟩:=gh;dsimp only at hI H;obtain ⟨hk,he,hgm⟩:=hI;dsimp only [lca,aZ] at H;refine kP H (SR fun _ K4=>Rc rfl (Kz K4 (SQ fun _ K5=>Cd rfl ?_ ?_))) <;> clear H K4
 ·intro h9 a H
  try have p9:=dT h9
  have hk2:k < n:=by omega
  refine kP H (Kc K5 (SQ fun _ K6=>SB (SR fun _ K7=>Rm rfl (ak K7 rfl (SR fun _ K8=>Rm rfl (Rm rfl ?_))))));clear H K5 K7;intro a H;refine EM (Li:=[]) (L:=B (S k)) H wn rfl rfl (hf k hk2 _ _ hgm (Hp.owns (Li:=[]) H.hp)) rfl ?_;clear H;rintro v13 DJ L13 a w ⟨s3,rfl,rfl,h3⟩ Gg H;refine kH H (ak K8 rfl (SR fun _ K9=>Rm rfl (Rc rfl (Kz K9 (Cd rfl ?_ ?_))))) <;> clear H K8 K9
  ·intro nG a H
   try have rX:=dT nG
   have hE:jM E n=E k:=by rw [Ch hk2,au rX] at he;exact he.symm
   exact kP H (SR fun _ aS=>Rm rfl (ak aS rfl (LR results84 rfl fun H=>H.hp.eB ⟨s3,by rw [hE],rfl,fun h=>absurd (hE.symm.trans h) rX⟩)))
  intro nG a H
  try have rX:=dF nG
  have hS:=h3 (lY.1 rX);subst hS;refine kP H (Kc K6 (SC (Rd rfl (Rm rfl ?_))));clear H K6;intro a H;refine aH ?_;refine dw ((k+1,DJ)) (by exact (H).sub ⟨rfl,rfl,rfl,aB⟩) ?_ ?_
  ·(try dsimp only);exact ⟨by omega,by rw [Ch hk2,ah rX] at he;exact he,fun b o h=>Gg b o (hgm b o h)⟩
  first|omega|(dsimp only;omega)
 intro h9 a H
 try have p9:=dF h9
 refine dW ?_;refine K2 _ _ ?_;clear K2;exact kP H (SR fun _ bA=>ak bA rfl (LR results84 rfl fun H=>H.hp.eB ⟨S n,aA vi (by rw [iC (by simp;omega)] at he;exact he),by rw [show k=n by omega],fun _=>rfl⟩))
abbrev IK (b ms ml mr mb mu:Nat) (L:OL) (s:CS):OL:=fD b ms ml mr mb mu s.n :: (mb,fB (fE s.bE)) :: L
theorem afI {m:Nat} (ih:DL m) (hm:m≤4294967296) {G:GH} {L:OL} {st:List bM} {li:List fI} {rv:List eX} {b ms ml mr mb mu:Nat} {s:CS} {l:List ay} {v:aj} {body note:Bool} {t:Int} {x3 x4 x5:Nat}
  (hck:sF G st li rv ms ml mr mu) (h3:aJ G x3 0=some (aI b 0)) (h4:aJ G x4 0=some v) (h5:∀ (j:Nat) (u:aj),[.bool body,.bool note,vi t][j]?=some u→aJ G x5 (0+j)=some u)
  (hv:av G (.sl 11 (l.map ay.dat)) v) (hz:bg l≤m) (ht0:0≤t) (CX:t≤4) (hs0:0≤s.n) (hs1:s.n+(bg l:Nat)≤1099511627776) :
  Qp (.func (.func 94) #[] #[(aI x3 0),(aI x4 0),(aI x5 0)]) G l.length (zl (eF (aT st li rv) body note t) l s) (IK b ms ml mr mb mu L) (nV (eF (aT st li rv) body note t) l s):=by
 intro k hk G1 w0 Gp hO;refine lZ (caps:=[(aI x3 0),(aI x4 0),(aI x5 0)]) acC ?_;replace h3:=aK Gp h3;replace h4:=aK Gp h4;replace h5:=fun j u hj=>aK Gp (h5 j u hj);replace hck:=hck.mono Gp;replace hv:=hv.mono Gp;obtain ⟨A,c,rfl,hc1,hc2,hg⟩:=hv.slice;rw [bT] at *;obtain ⟨o,xo,pA,pn,pc,dA,dn,dc,yA,yn,yc,fA,fn,fc,rA,rn,rc,rfl,hrow,hhd,hfl,hrw⟩:=zw hk hg;obtain ⟨hn0,hn1⟩:=Xx (aT st li rv) body note t l s k (by omega)
 have hdz:bg (l.drop k)=1+cB l[k].dat+bg (l.drop (k+1)):=by
  simp only [bg];rw [lG hk,eY,eD]
 have JD:=HY (iQ hk)
 have hE:zl (eF (aT st li rv) body note t) l s k=(eF (aT st li rv) body note t l[k] (nV (eF (aT st li rv) body note t) l s k)).1:=by unfold zl;rw [gP hk]
 have hS:nV (eF (aT st li rv) body note t) l s (k+1)=(eF (aT st li rv) body note t l[k] (nV (eF (aT st li rv) body note t) l s k)).2:=by rw [nV,gP hk]
 rw [hE,hS]
 generalize nV (eF (aT st li rv) body note t) l s k=s1 at *
 refine jN (N:=13) (T:=[(0,_),(1,_),(2,_),(3,_)]) func94 rfl ntmps94 rfl rfl hO ?_;intro a H;refine kP H (SR fun _ K1=>ak K1 rfl (SQ fun _ K2=>?_));clear H K1;intro a H;refine dI hmx [[],[],[],[1,2],[1,2,3],[],(ra 0 6),(ra 0 7)] [6,7] (by kernel_rfl) [_,_,_,_,.agg #[vi l[k].kind,vi l[k].code,vi l[k].id,.string l[k].text,.slice pA pn pc,vi l[k].head.marks.ins,vi l[k].head.marks.move,.slice dA dn dc,.slice yA yn yc,.slice fA fn fc,.slice rA rn rc],.agg #[.bool body,.bool note,vi t]] H (aD (X0 rfl fun hG=>Rg ER rfl (aK hG h3)) (X0 rfl fun hG=>Rg gZ rfl (aK hG h4)) (Z0 rfl (Rm rfl)) (Z2 1 7 2 8 rfl (Ri gI dB rfl rfl)) (aD ?_ ?_ (bL rfl) (bL rfl) bY)) ?_
 ·refine dL 3 9 rfl rfl fun _ a w G1 hG HT H fin=>?_;refine bD dB (cs:=[_,_,_,_,_,_,_,_,_,_,_]) H wn rfl rfl (fun j v hj=>H.hp.aJ (aK hG (hrow j v hj))) rfl ?_;clear H;intro a H;exact fin H iJ rfl
 ·refine yO rfl fun _ a w G1 hG HT H fin=>?_;refine bD Kl (cs:=[.bool body,.bool note,vi t]) H wn rfl rfl (fun j v hj=>H.hp.aJ (aK hG (h5 j v hj))) rfl ?_;clear H;intro a H;exact fin H iJ rfl
 clear H;intro a w G mJ H hv;have H:=H.aQ (hv 0 6 rfl rfl) rfl;have H:=H.aQ (hv 4 10 rfl rfl) rfl;have H:=H.aQ (hv 5 11 rfl rfl) rfl;clear hv;refine gN acD (Li:=[]) (L:=IK b ms ml mr mb mu L s1) H wn rfl (afJ ih hm _ _ _ st li rv b ms ml mr mb mu s1 l[k] _ _ _ _ _ body note t (hck.mono mJ) (Hp.owns (Li:=[]) H.hp) (hhd.mono mJ) (hfl.mono mJ) (hrw.mono mJ) (by omega) ht0 CX (by omega) (by omega)) rfl ?_;clear H;rintro v12 _ _ a w ⟨s3,rfl,rfl,h12⟩ - H;dsimp only [List.nil_append] at H;refine kH H (Ra rfl ?_);clear H;intro a H;refine aH ⟨rfl,?_⟩;refine K2 _ _ ?_;clear K2;refine lr H results94 rfl ?_;exact H.hp.eB ⟨s3,rfl,rfl,h12⟩
theorem afM {m:Nat} (ih:DL m) (hm:m≤4294967296):DL (m+1):=by
 intro G L w0 st li rv b ms ml mr mb mu s l v body note t hck hO hv hz ht0 CX hs0 hs1;obtain ⟨hA1,hA2⟩:=Vg (aT st li rv) body note t l s;refine Calls.Zp (R:=fun u G' L'=>H8 b ms ml mr mb mu L (iY (aT st li rv) body note t l s) u L') ?_ fun _ _ _ h=>h;obtain ⟨A,c,rfl,hc1,hc2,-⟩:=hv.slice;rw [bT] at *;have hll:=BM l;refine jN (N:=11) (T:=[(0,_),(1,_),(2,_)]) func60 rfl ntmps60 rfl rfl hO ?_;intro a H;refine cO (fun _ K1=>?_);refine fC (cs:=[_]) H wn rfl rfl rfl ?_;clear H;intro b3 a w hb3 H;refine fC (cs:=[_]) H wn rfl rfl rfl ?_;clear H;intro b4 a w hb4 H;refine fC (cs:=[_,_,_]) H wn rfl rfl rfl ?_;clear H;intro b5 a w hb5 H;refine kH H (ak K1 rfl (SQ fun _ K2=>?_));clear H K1;intro a H;obtain ⟨Yy,Js,xV,H⟩:=H.dP;obtain ⟨Yx,Ew,wF,H⟩:=H.dP;obtain ⟨Ga,Bh,zL,H⟩:=H.dP;replace xV:=Bh _ _ (Ew _ _ xV);replace wF:=Bh _ _ wF;have hma:∀ b o,G b=some o→Ga b=some o:=fun b o h=>Bh _ _ (Ew _ _ (Js _ _ h))
 have g3:aJ Ga b3 0=some (aI b 0):=by unfold aJ;rw [zL];rfl
 have g4:aJ Ga b4 0=some (.slice A l.length c):=by unfold aJ;rw [wF];rfl
 have g5:∀ (j:Nat) (u:aj),[.bool body,.bool note,vi t][j]?=some u→aJ Ga b5 (0+j)=some u:=by
  intro j u hj;unfold aJ;rw [xV];simpa using hj
 have hcb:=afI (mb:=mb) (L:=L) (s:=s) ih hm (hck.mono hma) g3 g4 g5 (hv.mono hma) (by omega) ht0 CX hs0 hs1;refine kP H (SC (Rg gZ rfl (by assumption) ?_));clear H;intro a H;refine kH H (Rl gI rfl ?_);clear H;intro a H;refine pO H wn rfl rfl ?_;clear H;intro a H;refine gN Ec (Li:=[]) (L:=IK b ms ml mr mb mu L s) H wn rfl (Y7 _ _ (IK b ms ml mr mb mu L) (nV (eF (aT st li rv) body note t) l s) l.length (zl (eF (aT st li rv) body note t) l s) _ (Hp.owns (Li:=[]) H.hp) (by omega) hcb) rfl ?_;clear H;rintro v10 _ _ a w ⟨s3,rfl,rfl,h10⟩ - H;dsimp only [List.nil_append] at H;exact kH H (aV K2 rfl (LR results60 rfl fun H=>H.hp.eB ⟨s3,by rw [hA1],rfl,fun h=>by rw [hA1] at h;exact (h10 h).trans (hA2 (hA1.trans h)).symm⟩))
theorem JG:∀ m:Nat,m≤4294967297→DL m
 | 0,_=>fun _ _ _ _ _ _ _ _ _ _ _ _ _ _ _ _ _ _ _ _ _ h=>absurd h (by omega)
 | m+1,hm=>afM (JG m (by omega)) (by omega)
end
section
open Go.RowKit
theorem acW:bV prog 176 1 1:=⟨by kernel_rfl⟩
theorem acX:bV prog 176 2 2:=⟨by kernel_rfl⟩
theorem acz:∀ args w,(callFunc 87 args).run prog w=.ok (.enter 87 args) w:=enters func87 rfl (by kernel_rfl)
theorem acy:∀ args w,(callFunc 85 args).run prog w=.ok (.enter 85 args) w:=enters func85 rfl (by kernel_rfl)
theorem ahy {G:GH} {bl:Nat} {l:List eX} {A:Option Addr} {n c:Nat} (hb:aJ G bl 0=some (.slice A n c)) (hv:av G (.sl 3 (l.map eX.dat)) (.slice A n c)):qD (.func (.func 87) #[] #[(aI bl 0)]) G l.length fun k=>(l[k]?.map eX.id).getD 0:=by
 intro k hk G1 w0 hm hG;refine lZ (caps:=[(aI bl 0)]) acz ?_;replace hb:=aK hm hb
 obtain rfl:n=l.length:=by have:=hv.len;simpa using this
 obtain ⟨b,o,rfl,hrow⟩:=Ph (hv.mono hm) hk;have hq:=hrow 0 _ rfl;refine eN [(0,_),(1,_)] func87 rfl ntmps87 rfl rfl hG ?_;intro a H;refine kP H (SR fun _ K1=>ak K1 rfl (SR fun _ K2=>Rg BA rfl (by assumption) ?_));clear H K1;intro a H;refine kH H (Rm rfl (Ri BG Dw rfl rfl (Rf Tk rfl (Rg aG rfl (by assumption) ?_))));clear H;intro a H;exact kH H (ak K2 rfl (LR results87 rfl fun H=>H.rt (by dsimp only;rw [gP hk];rfl)))
def O6 (l:List eX) (i:Nat) (x:eX):Int:=cZ [nT (fun k=>(l[k]?.map eX.id).getD 0) i,bW (!uW x.author) 39,bW (!decide (0≤x.time∧x.time≤1099511627776)) 40]
def Dq (l:List eX) (i:Nat):Int:=match l[i]? with|some x=>O6 l i x|none=>0
theorem ahp {G:GH} {bl:Nat} {l:List eX} {A:Option Addr} {n c:Nat} (hb:aJ G bl 0=some (.slice A n c)) (hv:av G (.sl 3 (l.map eX.dat)) (.slice A n c)) (hl:l.length≤4294967296) (ht:∀ x∈l,x.author.size < 4611686018427387904):qD (.func (.func 85) #[] #[(aI bl 0)]) G l.length (Dq l):=by
 intro k hk G1 w0 hm hG;refine lZ (caps:=[(aI bl 0)]) acy ?_;replace hb:=aK hm hb;replace hv:=hv.mono hm;have hcb:=ahy hb hv
 obtain rfl:n=l.length:=by have:=hv.len;simpa using this
 obtain ⟨b,o,rfl,hrow⟩:=Ph hv hk;have hte:=ht _ (iQ hk)
 have he:Dq l k=O6 l k l[k]:=by unfold Dq;rw [gP hk]
 obtain ⟨x,hx⟩:∃ x,x=l[k]:=⟨_,rfl⟩;rw [← hx] at hrow hte he;refine eN [(0,_),(1,_)] func85 rfl ntmps85 rfl rfl hG ?_;intro a H;refine kP H (SR fun _ K1=>ak K1 rfl (SQ fun _ K2=>?_));clear H K1;intro a H;have H:=H.sub (T':=[(0,_),(1,_)]) ⟨rfl,rfl,aB⟩;refine dI hmx [[],[],[0,1],[],[],[3,4],[3,4,5],(ra 3 4),(ra 0 8),(ra 0 9),(ra 0 10),[],[],[11,12],[11,12,13],(ra 11 4),(ra 0 16),(ra 0 17),(ra 0 18),(ra 0 19),(ra 0 20),(ra 0 21)] [19,20,21] (by kernel_rfl) [_,.func (.func 87) #[] #[(aI bl 0)],vi (nT (fun k=>(l[k]?.map eX.id).getD 0) k),_,_,_,_,_,.bool (uW x.author),_,vi (bW (!uW x.author) 39),_,_,_,_,_,.bool (decide (0≤x.time∧x.time≤1099511627776)),_,vi (bW (!decide (0≤x.time∧x.time≤1099511627776)) 40)] H (aD (Z0 rfl (Rm rfl)) ?_ ?_ (X0 rfl fun hG=>Rg BA rfl (aK hG hb)) (aD (Z0 rfl (Rm rfl)) (Z2 3 7 4 8 rfl (Ri BG Dw rfl rfl)) (Z1 5 9 rfl (Rf acW rfl)) (X1 6 10 rfl fun hG=>Rg fZ rfl (aK hG (hrow 1 _ rfl))) (aD ?_ (Z1 8 12 rfl (Rn rfl)) ?_ (X0 rfl fun hG=>Rg BA rfl (aK hG hb)) (aD (Z0 rfl (Rm rfl)) (Z2 11 15 12 16 rfl (Ri BG Dw rfl rfl)) (Z1 13 17 rfl (Rf acX rfl)) (X1 14 18 rfl fun hG=>Rg aG rfl (aK hG (hrow 2 _ rfl))) (aD ?_ (Z1 16 20 rfl (Rn rfl)) ?_ (bL rfl) (aW (bL rfl) (aW (bL rfl) bY))))))) ?_
 ·refine yO rfl fun _ a w G1 hG HT H fin=>?_;refine pO H wn rfl rfl ?_;clear H;intro a H;exact fin H iJ rfl
 ·refine dz 0 4 1 5 rfl rfl fun _ a w G1 hG HT H fin=>?_;refine s_call Mv H wn rfl (Ol _ _ H.ro k _ _ (by omega) (fun i hi=>(hcb.mono hG) i (by omega))) rfl ?_;clear H;rintro v6 G6 a w rfl gH H;exact fin H gH (rfl)
 ·refine dL 7 11 rfl rfl fun _ a w G1 hG HT H fin=>?_;refine s_call SN H wn rfl (Rt _ _ H.ro x.author hte) rfl ?_;clear H;rintro v12 Au a w ⟨rfl,-⟩ pF H;exact fin H pF (rfl)
 ·refine dL 9 13 rfl rfl fun _ a w G1 hG HT H fin=>?_;refine s_call iL H wn rfl (iN _ _ H.ro _ 39) rfl ?_;clear H;rintro v14 E8 a w ⟨rfl,-⟩ FZ H;exact fin H FZ (rfl)
 ·refine dL 15 19 rfl rfl fun _ a w G1 hG HT H fin=>?_;refine s_call uj H wn rfl (uF _ _ H.ro x.time 0 1099511627776) rfl ?_;clear H;rintro v20 DK a w ⟨rfl,-⟩ adO H;exact fin H adO (rfl)
 ·refine dL 17 21 rfl rfl fun _ a w G1 hG HT H fin=>?_;refine s_call iL H wn rfl (iN _ _ H.ro _ 40) rfl ?_;clear H;rintro v22 Yf a w ⟨rfl,-⟩ M8 H;exact fin H M8 (rfl)
 clear H;intro a w G mJ H hv;have H:=H.aQ (hv 2 6 rfl rfl) rfl;have H:=H.aQ (hv 10 14 rfl rfl) rfl;have H:=H.aQ (hv 18 22 rfl rfl) rfl;clear hv;refine gQ nJ fV [_,_,_] [_,_,_] H wn rfl rfl rfl rfl rfl (by intro i q h;match i,h with|0,h=>exact h|1,h=>exact h|2,h=>exact h|n+3,h=>simp at h) rfl rfl ?_;clear H;intro b23 a w ajC H;obtain ⟨KL,pI,aen,H⟩:=H.dP;refine s_call oD H wn rfl (oF _ _ H.ro _ _ (C9 [nT (fun k=>(l[k]?.map eX.id).getD 0) k,bW (!uW x.author) 39,bW (!decide (0≤x.time∧x.time≤1099511627776)) 40] aen (show 3≤maxLen by decide))) rfl ?_;clear H;rintro v24 _ a w ⟨rfl,rfl⟩ - H;refine kH H (Ra rfl ?_);clear H;intro a H;refine aH ⟨rfl,?_⟩;refine K2 _ _ ?_;clear K2;refine lr H results85 rfl ?_;exact H.rt (by rw [he,O6])
def FD (l:List eX):Int:=cZ [bW (decide (256 < (l.length:Int))) 9,jM (Dq l) (min l.length 256)]
theorem Z4 (G:GH) (w0:World) (hG:Hold G w0) (l:List eX) (v:aj) (hv:av G (.sl 3 (l.map eX.dat)) v) (hl:l.length≤4294967296) (ht:∀ x∈l,x.author.size < 4611686018427387904) :
  Calls prog 56 #[v] w0 (bC w0 G fun u G'=>u=vi (FD l)):=by
 obtain ⟨A,c,rfl,hc1,hc2,-⟩:=hv.slice;rw [bT] at *;refine eN [(0,_)] func56 rfl ntmps56 rfl rfl hG ?_;intro a H;refine cO (fun _ K1=>?_);refine fC (cs:=[_]) H wn rfl rfl rfl ?_;clear H;intro b1 a w hb1 H;refine kH H (ak K1 rfl (SQ fun _ K2=>?_));clear H K1;intro a H;have H:=H.sub (T':=[(1,_)]) ⟨rfl,aB⟩;obtain ⟨Ga,hma,hb1',H⟩:=H.dP
 have hbl:aJ Ga b1 0=some (.slice A l.length c):=by unfold aJ;rw [hb1'];rfl
 have hcb:=ahp hbl (hv.mono hma) hl ht;refine dI hmx [[],[0],[0,1],[0,1,2],[],[4],[4,5],[],(ra 0 8),(ra 0 9),(ra 0 10),(ra 0 11)] [9,10,11] (by kernel_rfl) [_,_,_,vi (bW (decide (256 < (l.length:Int))) 9),_,_,vi ((min l.length 256:Nat):Int),.func (.func 85) #[] #[(aI b1 0)],vi (jM (Dq l) (min l.length 256))] H (aD (X0 rfl fun hG=>Rg BA rfl (aK hG hbl)) (Z1 0 3 rfl (Rl BG rfl)) (Z1 1 4 rfl (Rc rfl)) ?_ (aD (X0 rfl fun hG=>Rg BA rfl (aK hG hbl)) (Z1 4 7 rfl (Rl BG rfl)) ?_ ?_ (aD ?_ (bL rfl) (bL rfl) (bL rfl) bY))) ?_
 ·refine dL 2 5 rfl rfl fun _ a w G1 hG HT H fin=>?_;refine s_call iL H wn rfl (iN _ _ H.ro _ 9) rfl ?_;clear H;rintro v6 G6 a w ⟨rfl,-⟩ gH H;exact fin H gH (rfl)
 ·refine dL 5 8 rfl rfl fun _ a w G1 hG HT H fin=>?_;refine J8 H wn rfl rfl rfl ?_;clear H;intro a H;exact fin H iJ (aA vi (by omega))
 ·refine yO rfl fun _ a w G1 hG HT H fin=>?_;refine pO H wn rfl rfl ?_;clear H;intro a H;exact fin H iJ rfl
 ·refine dz 6 9 7 10 rfl rfl fun _ a w G1 hG HT H fin=>?_;refine s_call Ec H wn rfl (Fx _ _ H.ro (min l.length 256) (Dq l) _ (by omega) ((hcb.mono hG).le (Nat.min_le_left _ _))) rfl ?_;clear H;rintro v11 vS a w rfl jH H;exact fin H jH (rfl)
 clear H;intro a w G mJ H hv;have H:=H.aQ (hv 3 6 rfl rfl) rfl;have H:=H.aQ (hv 8 11 rfl rfl) rfl;clear hv;refine gQ nJ fV [_,_] [_,_] H wn rfl rfl rfl rfl rfl (by intro i q h;match i,h with|0,h=>exact h|1,h=>exact h|n+2,h=>simp at h) rfl rfl ?_;clear H;intro b12 a w Bc H;obtain ⟨Au,CP,CK,H⟩:=H.dP;refine s_call oD H wn rfl (oF _ _ H.ro _ _ (vN CK)) rfl ?_;clear H;rintro v13 _ a w ⟨rfl,rfl⟩ - H;refine kH H (Ra rfl ?_);clear H;intro a H;refine aH ⟨rfl,?_⟩;refine K2 _ _ ?_;clear K2;refine lr H results56 rfl ?_;exact H.rt rfl
theorem uq:∀ {l:List Int},cZ l=0→∀ x∈l,x=0
 | [],_,_,h=>by cases h
 | e :: r,h,x,hx=>by
  unfold cZ at h
  by_cases he:e=0
  ·rw [ah (fun h'=>h' he)] at h
   rcases lX.1 hx with rfl|hx
   ·exact he
   exact uq h x hx
  rw [au he] at h;exact absurd h he
theorem Q9 {E:Nat→Int} {n:Nat} (h:jM E n=0) (i:Nat) (hi:i < n):E i=0:=uq h _ (by simp;exact ⟨i,hi,rfl⟩)
theorem Va {id:Nat→Int} {i:Nat} (h:nT id i=0):1≤id i∧id i≤1073741824∧(0 < i→id (i - 1) < id i):=by
 unfold nT at h
 by_cases h1:1≤id i∧id i≤1073741824
 ·rw [ah (fun h'=>h' h1)] at h
  by_cases h2:0 < i∧id i=id (i - 1)
  ·rw [au h2] at h;cases h
  rw [ah h2] at h
  by_cases h3:0 < i∧id i < id (i - 1)
  ·rw [au h3] at h;cases h
  exact ⟨h1.1,h1.2,fun h0=>by omega⟩
 rw [au h1] at h;cases h
theorem Vb {l:List Int} (h:∀ i (h:i+1 < l.length),l[i] < l[i+1]):yL l:=by
 have hlt:∀ (j i:Nat) (hj:j < l.length) (hi:i < j),l[i] < l[j]:=by
  intro j
  induction j with
  | zero=>intro i _ hi;omega
  | succ j ih =>
   intro i hj hi;have h1:=h j hj
   by_cases e:i=j
   ·subst e;exact h1
   have:=ih i (by omega) (by omega);omega
 intro k hk hm;obtain ⟨i,hi,he⟩:=List.getElem_of_mem hm;rw [List.length_take] at hi;have:=hlt k i hk (by omega);rw [List.getElem_take] at he
 omega
theorem ahq {l:List eX} (h:FD l=0):yL (l.map eX.id):=by
 have h1:=uq h _ (iB);have h2:=uq h _ (jU _ iB)
 have hl:l.length≤256:=by
  unfold bW at h1
  by_cases hd:256 < (l.length:Int)
  ·rw [au (aC hd)] at h1;cases h1
  omega
 refine Vb fun i hi=>?_;rw [bT] at hi;have h3:=Q9 h2 (i+1) (by omega)
 unfold Dq at h3
 rw [gP hi] at h3;have h4:=(Va (uq h3 _ iB)).2.2 (by omega);rw [Nat.add_sub_cancel,gP hi,gP (show i < l.length by omega)] at h4
 simpa using h4
theorem agf {l:List fI} (h:FC l=0):yL (l.map fI.id):=by
 have h1:=uq h _ (iB);have h2:=uq h _ (jU _ iB)
 have hl:l.length≤64:=by
  unfold bW at h1
  by_cases hd:64 < (l.length:Int)
  ·rw [au (aC hd)] at h1;cases h1
  omega
 refine Vb fun i hi=>?_;rw [bT] at hi;have h3:=Q9 h2 (i+1) (by omega)
 unfold Dg at h3
 have h4:=(Va (uq h3 _ iB)).2.2 (by omega);rw [Nat.add_sub_cancel,gP hi,gP (show i < l.length by omega)] at h4
 simpa using h4
theorem aiz {l:List bM} (h:fT l=0):yL (l.map bM.id):=by
 unfold fT at h
 by_cases h1:128 < l.length
 ·rw [au h1] at h;cases h
 rw [ah h1] at h
 by_cases h2:qJ (wU l) 0 l.length≠0
 ·rw [au h2] at h;exact absurd h h2
 intro k hk;rw [bT] at hk;have:=V3 (lY.1 h2) k hk;rw [← List.map_take,List.getElem_map];exact this
end
section
open Go.RowKit
theorem acf:∀ args w,(callFunc 57 args).run prog w=.ok (.enter 57 args) w:=enters func57 rfl (by kernel_rfl)
theorem Kq:Ty prog 36 4 96 [.slice none 0 0,.slice none 0 0,.slice none 0 0,.slice none 0 0] true:=⟨by kernel_rfl,by kernel_rfl⟩
theorem acd:∀ args w,(callFunc 55 args).run prog w=.ok (.enter 55 args) w:=enters func55 rfl (by kernel_rfl)
theorem ace:∀ args w,(callFunc 56 args).run prog w=.ok (.enter 56 args) w:=enters func56 rfl (by kernel_rfl)
theorem I4:bV prog 38 1 1:=⟨by kernel_rfl⟩
theorem MJ (e:Int):cZ [e]=e:=by
 by_cases h:e=0 <;> simp [cZ,h]
structure vR where
 flow:List ay
 fin:ig
 revs:List eX
 mP:yP
structure BO (G:GH) (D:nK) (d:vR):Prop where
 fl:av G (.sl 11 (d.flow.map ay.dat)) (fq D.f)
 hd:jl G d.fin (fq D.p) (fq D.d) (fq D.y)
 ins:D.ins=d.fin.marks.ins
 mv:D.move=d.fin.marks.move
 rv:av G (.sl 3 (d.revs.map eX.dat)) (fq D.r)
 st:DU G d.mP (fq D.s1) (fq D.s2) (fq D.s3) (fq D.s4)
theorem DU.mono {G G':GH} (hm:∀ b o,G b=some o→G' b=some o) {s:yP} {a b c d:aj} (h:DU G s a b c d):DU G' s a b c d:=⟨h.st.mono hm,h.li.mono hm,h.cm.mono hm,h.va.mono hm⟩
theorem BO.mono {G G':GH} (hm:∀ b o,G b=some o→G' b=some o) {D:nK} {d:vR} (h:BO G D d):BO G' D d:=⟨h.fl.mono hm,h.hd.mono hm,h.ins,h.mv,h.rv.mono hm,h.st.mono hm⟩
structure Ia (d:vR):Prop where
 fl:bg d.flow≤1073741824
 hd:oO d.fin≤4294967296
 rn:d.revs.length≤4294967296
 rt:∀ x∈d.revs,x.author.size < 4611686018427387904
 sn:d.mP.styles.length≤4294967296
 st:KX d.mP
abbrev vR.rM (d:vR):gJ:=aT d.mP.styles d.mP.lists d.revs
def uJ (m:uS):Bool:=decide ((m.ins≠0∨m.move≠0)∨0 < (m.bZ.length:Int))
def mg (d:vR):Int:=cZ [cZ [II d.mP,FD d.revs],cZ [iw d.rM 3 d.fin,bW (uJ d.fin.marks) 21],(iY d.rM true false 0 d.flow ⟨0,[]⟩).1,bW (decide (16384 < (iY d.rM true false 0 d.flow ⟨0,[]⟩).2.n)) 9]
theorem Z7 (G:GH) (w0:World) (hG:Hold G w0) (D:nK) (d:vR) (hR:BO G D d) (hz:Ia d) :
  Calls prog 33 #[D.val] w0 (bC w0 G fun u G'=>u=vi (mg d)):=by
 obtain ⟨df,dp,dd,dy,dr,d1,d2,d3,d4,ins,mv⟩:=D;obtain ⟨hfl,hhd,hin,hmv,wN,hst⟩:=hR;dsimp only at hfl hhd hin hmv wN hst;subst hin;subst hmv;obtain ⟨zf,zh,zr,zt,zs,zg⟩:=hz;have hdl:=hhd.bZ.len;rw [bT] at hdl
 have hdn:d.fin.marks.bZ.length≤4294967296:=by
  have h1:=HV d.fin;have h2:=qW (d.fin.marks.bZ.map jg.dat);rw [bT] at h2;omega
 refine eN [(0,_)] func33 rfl ntmps33 rfl rfl hG ?_;intro a H;refine cO (fun _ K1=>?_);refine fC (cs:=[_,_,_,_,_,_,_,_,_,_,_]) H wn rfl rfl rfl ?_;clear H;intro b1 a w hb1 H;refine kH H (ak K1 rfl (SQ fun _ K2=>SQ fun _ K3=>?_));clear H K1;intro a H;refine dI hmx [[],[0],[0,1],[],[3],(ra 0 5),(ra 0 6),(ra 0 7),(ra 0 8)] [6,7,8] (by kernel_rfl) [_,.agg #[fq d1,fq d2,fq d3,fq d4],vi (II d.mP),_,fq dr,vi (FD d.revs)] H (aD (Z0 rfl (Rf I5 rfl)) ?_ ?_ (Z0 rfl (Rf MG rfl)) (aD (Z1 3 11 rfl (Ro BA 0 rfl)) ?_ (bL rfl) (bL rfl) (aW (bL rfl) bY))) ?_
 ·refine dL 0 8 rfl rfl fun _ a w G1 hG HT H fin=>?_;refine bD Kq (cs:=[_,_,_,_]) H wn rfl rfl (H.hp.dY 0 rfl rfl) rfl ?_;clear H;intro a H;exact fin H iJ rfl
 ·refine dL 1 9 rfl rfl fun _ a w G1 hG HT H fin=>?_;refine s_call acd H wn rfl (Z5 _ _ H.ro d.mP _ _ _ _ (hst.mono hG) zg) rfl ?_;clear H;rintro v10 uR a w rfl mK H;exact fin H mK (rfl)
 ·refine dL 4 12 rfl rfl fun _ a w G1 hG HT H fin=>?_;refine s_call ace H wn rfl (Z4 _ _ H.ro d.revs _ (wN.mono hG) zr zt) rfl ?_;clear H;rintro v13 DJ a w rfl Jb H;exact fin H Jb (rfl)
 clear H;intro a w G mJ H hv;have H:=H.aQ (hv 2 10 rfl rfl) rfl;have H:=H.aQ (hv 5 13 rfl rfl) rfl;clear hv;refine gQ nJ fV [_,_] [_,_] H wn rfl rfl rfl rfl rfl (by intro i q h;match i,h with|0,h=>exact h|1,h=>exact h|n+2,h=>simp at h) rfl rfl ?_;clear H;intro b14 a w Nt H;obtain ⟨E8,NI,aek,H⟩:=H.dP;have hg1:=fun b o h=>NI b o (mJ b o h);replace hfl:=hfl.mono hg1;replace hhd:=hhd.mono hg1;replace wN:=wN.mono hg1;replace hst:=hst.mono hg1;refine s_call oD H wn rfl (oF _ _ H.ro _ _ (vN aek)) rfl ?_;clear H;rintro v15 _ a w ⟨rfl,rfl⟩ - H;refine kH H (Ra rfl ?_);clear H;intro a H;refine aH ⟨rfl,?_⟩;refine K3 _ _ ?_;clear K3;refine kP H (SR fun _ K4=>Rm rfl (Rc rfl (Kz K4 (Cd rfl ?_ ?_)))) <;> clear H K4
 ·intro dS a H
  try have lS:=dT dS
  have hE:mg d=cZ [II d.mP,FD d.revs]:=by rw [mg,cZ,au lS]
  exact kP H (SR fun _ K5=>Rm rfl (ak K5 rfl (LR results33 rfl fun H=>H.rt (by rw [hE]))))
 intro dS a H
 try have lS:=dF dS
 have e1:=lY.1 lS;have s1:=uq e1 _ iB;have s2:=uq e1 _ (jU _ iB);have t1:=uq s1 _ iB;have t2:=uq s1 _ (jU _ iB);refine fO ?_;refine K2 _ _ ?_;clear K2;refine cO (fun _ K6=>?_);refine bD ru (cs:=[_,_,_,_,_,_,_,_,_,_,_]) H wn rfl rfl (H.hp.dY 0 rfl rfl) rfl ?_;clear H;intro a H;refine gN acf (Li:=[_]) (L:=[]) H wn rfl (agE _ _ (Hp.owns (Li:=[_]) H.hp) ⟨df,dp,dd,dy,dr,d1,d2,d3,d4,d.fin.marks.ins,d.fin.marks.move⟩ d.mP.styles d.mP.lists d.revs hst.st hst.li wN (aiz t1) (agf t2) (ahq s2) zs zg.ln zr) rfl ?_;clear H;rintro v20 DK _ a w ⟨b,ms,ml,mr,mb,mu,rfl,rfl,hck⟩ Bf H;dsimp only [lca,aZ] at H;replace hfl:=hfl.mono Bf;replace hhd:=hhd.mono Bf;refine kH H (ak K6 rfl (SR fun _ K7=>Rf I4 rfl (Rf sQ rfl ?_)));clear H K6;intro a H;refine bD EU (cs:=[_,_,_,_]) H wn rfl rfl (H.hp.dY 0 rfl rfl) rfl ?_;clear H;intro a H;refine eU EU H wn rfl ?_;clear H;intro b5 a w hb5 H;refine bF EU 0 (vs:=[_,_,_,_]) _ H wn rfl rfl rfl rfl rfl rfl rfl rfl ?_;clear H;intro w H;dsimp only [List.set,setRow] at H;refine K7 _ _ ?_;clear K7;refine bq (fun _ K8=>?_);refine bq (fun _ K9=>?_)
 by_cases c0:d.fin.marks.ins≠0
 ·skip;have c1:d.fin.marks.ins≠0∨d.fin.marks.move≠0:=Or.inl c0;refine dI hmx [[],[],[1],[0,1,2],[],[4],[4,5],(ra 0 7),(ra 0 8),(ra 0 9),(ra 0 10),(ra 0 11),(ra 0 12),(ra 0 13),(ra 0 14),(ra 0 15),(ra 0 16),(ra 0 17),(ra 0 18),(ra 0 19),(ra 0 20),(ra 0 21)] [19,20,21] (by kernel_rfl) [_,_,xX d.fin (fq dp) (fq dd) (fq dy),vi (iw d.rM 3 d.fin),_,vi d.fin.marks.ins,_,_,undef,undef,undef,.bool (decide (d.fin.marks.ins≠0∨d.fin.marks.move≠0)),_,undef,undef,undef,undef,.bool (uJ d.fin.marks),vi (bW (uJ d.fin.marks) 21)] H (aD (Z0 rfl (Rm rfl)) (Z0 rfl (Rf I4 rfl)) ?_ ?_ (aD (Z0 rfl (Rf vo rfl)) (Z1 4 28 rfl (Ro aG 0 rfl)) (Z1 5 29 rfl (Rc rfl)) (Z1 6 30 rfl (Rm rfl)) (aD (aL (j:=7) (by kernel_rfl) (fun _ _ _ _ _ h=>h) rfl rfl rfl rfl rfl (fun _ _ h=>aN h (aF (aC c0))) rfl (fun _=>rfl)) (aL (j:=7) (by kernel_rfl) (fun _ _ _ _ _ h=>h) rfl rfl rfl rfl rfl (fun _ _ h=>aN h (aF (aC c0))) rfl (fun _=>rfl)) (aL (j:=7) (by kernel_rfl) (fun _ _ _ _ _ h=>h) rfl rfl rfl rfl rfl (fun _ _ h=>aN h (aF (aC c0))) rfl (fun _=>rfl)) ?_ (aD (Z1 11 35 rfl (Rm rfl)) (aL (j:=12) (by kernel_rfl) (fun _ _ _ _ _ h=>h) rfl rfl rfl rfl rfl (fun _ _ h=>aN h (aF (aC c1))) rfl (fun _=>rfl)) (aL (j:=12) (by kernel_rfl) (fun _ _ _ _ _ h=>h) rfl rfl rfl rfl rfl (fun _ _ h=>aN h (aF (aC c1))) rfl (fun _=>rfl)) (aL (j:=12) (by kernel_rfl) (fun _ _ _ _ _ h=>h) rfl rfl rfl rfl rfl (fun _ _ h=>aN h (aF (aC c1))) rfl (fun _=>rfl)) (aD (aL (j:=12) (by kernel_rfl) (fun _ _ _ _ _ h=>h) rfl rfl rfl rfl rfl (fun _ _ h=>aN h (aF (aC c1))) rfl (fun _=>rfl)) ?_ ?_ (bL rfl) (aW (bL rfl) (aW (bL rfl) bY))))))) ?_
  ·refine dL 1 25 rfl rfl fun _ a w G1 hG HT H fin=>?_;refine bD pQ (cs:=[_,_,_,_,_]) H wn rfl rfl (H.hp.dY 1 rfl rfl) rfl ?_;clear H;intro a H;exact fin H iJ rfl
  ·refine dz 0 24 2 26 rfl rfl fun _ a w G1 hG HT H fin=>?_;refine gN Eb (Li:=[_,_]) (L:=fD b ms ml mr mb mu 0 :: (mb,fB []) :: []) H wn rfl (Es _ _ _ d.mP.styles d.mP.lists d.revs b ms ml mr mb mu _ (hck.mono hG) (Hp.owns (Li:=[_,_]) H.hp) 3 d.fin _ _ _ (hhd.mono hG) zh) rfl ?_;clear H;rintro v27 _ _ a w ⟨rfl,rfl,rfl⟩ F3 H;dsimp only [lca,aZ] at H;exact fin H F3 (rfl)
  ·refine dz 7 31 10 34 rfl rfl fun _ a w G1 hG HT H fin=>?_;refine kH H (Pt (aC c0) rfl ?_);clear H;intro a H;exact fin H iJ (by show _=_;first|exact aF (aC c1).symm|exact aF (by simp [c0]))
  ·refine dz 12 36 16 40 rfl rfl fun _ a w G1 hG HT H fin=>?_;refine kH H (Pt (aC c1) rfl ?_);clear H;intro a H;exact fin H iJ (by show _=_;first|exact aF (jT (Or.inl c1)).symm|exact aF (by simp [uJ,c1]))
  ·refine dL 17 41 rfl rfl fun _ a w G1 hG HT H fin=>?_;refine s_call iL H wn rfl (iN _ _ H.ro _ 21) rfl ?_;clear H;rintro v42 Ih a w ⟨rfl,-⟩ F4 H;exact fin H F4 (rfl)
  clear H;intro a w G gH H hv;have H:=H.aQ (hv 3 27 rfl rfl) rfl;have H:=H.aQ (hv 18 42 rfl rfl) rfl;clear hv;refine gQ nJ fV [_,_] [_,_] H wn rfl rfl rfl rfl rfl (by intro i q h;match i,h with|0,h=>exact h|1,h=>exact h|n+2,h=>simp at h) rfl rfl ?_;clear H;intro Rw a w Ug H;obtain ⟨E9,vG,F8,H⟩:=H.dP;have Bd:=fun b o h=>vG b o (gH b o h);replace hfl:=hfl.mono Bd;replace hck:=hck.mono Bd;refine s_call oD H wn rfl (oF _ _ H.ro _ _ (vN F8)) rfl ?_;clear H;rintro v44 _ a w ⟨rfl,rfl⟩ - H;refine kH H (Ra rfl ?_);clear H;intro a H;refine aH ⟨rfl,?_⟩;refine K9 _ _ ?_;clear K9;refine kP H (SR fun _ aS=>Rm rfl (Rc rfl (Kz aS (Cd rfl ?_ ?_)))) <;> clear H aS
  ·intro h46 a H
   try have p46:=dT h46
   have hE:mg d=cZ [iw d.rM 3 d.fin,bW (uJ d.fin.marks) 21]:=by rw [mg,cZ,ah (by simpa using e1),cZ,au p46]
   exact kP H (SR fun _ bA=>Rm rfl (ak bA rfl (LR results33 rfl fun H=>H.rt (by rw [hE]))))
  intro h46 a H
  try have p46:=dF h46
  have e2:=lY.1 p46;refine kP H (Kc K8 (SQ fun _ bK=>SR fun _ bR=>Rm rfl (aR Cr gZ 1 rfl rfl ?_)));clear H K8;intro a H;refine jJ Bw [_,_,_] H wn rfl rfl rfl rfl ?_;clear H;intro a H;refine gN FL (Li:=[_,_]) (L:=fD b ms ml mr mb mu 0 :: (mb,fB []) :: []) H wn rfl (JG 4294967297 (by omega) _ _ _ d.mP.styles d.mP.lists d.revs b ms ml mr mb mu ⟨0,[]⟩ d.flow _ true false 0 hck (Hp.owns (Li:=[_,_]) H.hp) hfl (by omega) (by omega) (by omega) (by decide) (by dsimp only;omega)) rfl ?_;clear H;rintro v52 _ _ a w ⟨rfl,s3,rfl,rfl,h3⟩ - H;dsimp only [lca,aZ] at H;refine kH H (ak bR rfl (SR fun _ bP=>Rm rfl (Rc rfl (Kz bP (Cd rfl ?_ ?_))))) <;> clear H bR bP
  ·intro gU a H
   try have p54:=dT gU
   have hE:mg d=(iY d.rM true false 0 d.flow ⟨0,[]⟩).1:=by rw [mg,cZ,ah (by simpa using e1),cZ,ah (by simpa using e2),cZ,au p54]
   exact kP H (SR fun _ dJ=>Rm rfl (ak dJ rfl (LR results33 rfl fun H=>H.rt (by rw [hE]))))
  intro gU a H
  try have p54:=dF gU
  have e3:=lY.1 p54;have hs3:=h3 e3;subst hs3;refine kP H (Kc bK (SR fun _ dN=>Rm rfl (Rk rfl (aR Cn aG 2 rfl rfl (Rc rfl ?_)))));clear H bK;intro a H;refine s_call iL H wn rfl (iN _ _ H.ro _ 9) rfl ?_;clear H;rintro v61 _ a w ⟨rfl,rfl⟩ - H
  have hE:mg d=bW (decide (16384 < (iY d.rM true false 0 d.flow ⟨0,[]⟩).2.n)) 9:=by rw [mg,cZ,ah (by simpa using e1),cZ,ah (by simpa using e2),cZ,ah (by simpa using e3)];exact MJ _
  exact kH H (ak dN rfl (LR results33 rfl fun H=>H.rt (by rw [hE])))
 skip
 by_cases c1:d.fin.marks.ins≠0∨d.fin.marks.move≠0
 ·skip;refine dI hmx [[],[],[1],[0,1,2],[],[4],[4,5],(ra 0 7),(ra 0 8),(ra 0 9),(ra 0 10),(ra 0 11),(ra 0 12),(ra 0 13),(ra 0 14),(ra 0 15),(ra 0 16),(ra 0 17),(ra 0 18),(ra 0 19),(ra 0 20),(ra 0 21)] [19,20,21] (by kernel_rfl) [_,_,xX d.fin (fq dp) (fq dd) (fq dy),vi (iw d.rM 3 d.fin),_,vi d.fin.marks.ins,_,_,_,vi d.fin.marks.move,_,.bool (decide (d.fin.marks.ins≠0∨d.fin.marks.move≠0)),_,undef,undef,undef,undef,.bool (uJ d.fin.marks),vi (bW (uJ d.fin.marks) 21)] H (aD (Z0 rfl (Rm rfl)) (Z0 rfl (Rf I4 rfl)) ?_ ?_ (aD (Z0 rfl (Rf vo rfl)) (Z1 4 28 rfl (Ro aG 0 rfl)) (Z1 5 29 rfl (Rc rfl)) (Z1 6 30 rfl (Rm rfl)) (aD (Z1 7 31 rfl (YF AB (aO c0) rfl)) (Z2 8 32 7 31 rfl (YO aG 0 (aO c0) rfl)) (Z2 9 33 7 31 rfl (YC (aO c0) rfl)) ?_ (aD (Z1 11 35 rfl (Rm rfl)) (aL (j:=12) (by kernel_rfl) (fun _ _ _ _ _ h=>h) rfl rfl rfl rfl rfl (fun _ _ h=>aN h (aF (aC c1))) rfl (fun _=>rfl)) (aL (j:=12) (by kernel_rfl) (fun _ _ _ _ _ h=>h) rfl rfl rfl rfl rfl (fun _ _ h=>aN h (aF (aC c1))) rfl (fun _=>rfl)) (aL (j:=12) (by kernel_rfl) (fun _ _ _ _ _ h=>h) rfl rfl rfl rfl rfl (fun _ _ h=>aN h (aF (aC c1))) rfl (fun _=>rfl)) (aD (aL (j:=12) (by kernel_rfl) (fun _ _ _ _ _ h=>h) rfl rfl rfl rfl rfl (fun _ _ h=>aN h (aF (aC c1))) rfl (fun _=>rfl)) ?_ ?_ (bL rfl) (aW (bL rfl) (aW (bL rfl) bY))))))) ?_
  ·refine dL 1 25 rfl rfl fun _ a w G1 hG HT H fin=>?_;refine bD pQ (cs:=[_,_,_,_,_]) H wn rfl rfl (H.hp.dY 1 rfl rfl) rfl ?_;clear H;intro a H;exact fin H iJ rfl
  ·refine dz 0 24 2 26 rfl rfl fun _ a w G1 hG HT H fin=>?_;refine gN Eb (Li:=[_,_]) (L:=fD b ms ml mr mb mu 0 :: (mb,fB []) :: []) H wn rfl (Es _ _ _ d.mP.styles d.mP.lists d.revs b ms ml mr mb mu _ (hck.mono hG) (Hp.owns (Li:=[_,_]) H.hp) 3 d.fin _ _ _ (hhd.mono hG) zh) rfl ?_;clear H;rintro v27 _ _ a w ⟨rfl,rfl,rfl⟩ F3 H;dsimp only [lca,aZ] at H;exact fin H F3 (rfl)
  ·refine dz 7 31 10 34 rfl rfl fun _ a w G1 hG HT H fin=>?_;refine kH H (Pf (aO c0) rfl ?_);clear H;intro a H;exact fin H iJ (by show _=_;first|exact aF (aC c1).symm|exact aF (by simp [c0]))
  ·refine dz 12 36 16 40 rfl rfl fun _ a w G1 hG HT H fin=>?_;refine kH H (Pt (aC c1) rfl ?_);clear H;intro a H;exact fin H iJ (by show _=_;first|exact aF (jT (Or.inl c1)).symm|exact aF (by simp [uJ,c1]))
  ·refine dL 17 41 rfl rfl fun _ a w G1 hG HT H fin=>?_;refine s_call iL H wn rfl (iN _ _ H.ro _ 21) rfl ?_;clear H;rintro v42 Ih a w ⟨rfl,-⟩ F4 H;exact fin H F4 (rfl)
  clear H;intro a w G gH H hv;have H:=H.aQ (hv 3 27 rfl rfl) rfl;have H:=H.aQ (hv 18 42 rfl rfl) rfl;clear hv;refine gQ nJ fV [_,_] [_,_] H wn rfl rfl rfl rfl rfl (by intro i q h;match i,h with|0,h=>exact h|1,h=>exact h|n+2,h=>simp at h) rfl rfl ?_;clear H;intro Rw a w Ug H;obtain ⟨E9,vG,F8,H⟩:=H.dP;have Bd:=fun b o h=>vG b o (gH b o h);replace hfl:=hfl.mono Bd;replace hck:=hck.mono Bd;refine s_call oD H wn rfl (oF _ _ H.ro _ _ (vN F8)) rfl ?_;clear H;rintro v44 _ a w ⟨rfl,rfl⟩ - H;refine kH H (Ra rfl ?_);clear H;intro a H;refine aH ⟨rfl,?_⟩;refine K9 _ _ ?_;clear K9;refine kP H (SR fun _ dx=>Rm rfl (Rc rfl (Kz dx (Cd rfl ?_ ?_)))) <;> clear H dx
  ·intro h46 a H
   try have p46:=dT h46
   have hE:mg d=cZ [iw d.rM 3 d.fin,bW (uJ d.fin.marks) 21]:=by rw [mg,cZ,ah (by simpa using e1),cZ,au p46]
   exact kP H (SR fun _ eu=>Rm rfl (ak eu rfl (LR results33 rfl fun H=>H.rt (by rw [hE]))))
  intro h46 a H
  try have p46:=dF h46
  have e2:=lY.1 p46;refine kP H (Kc K8 (SQ fun _ gy=>SR fun _ fu=>Rm rfl (aR Cr gZ 1 rfl rfl ?_)));clear H K8;intro a H;refine jJ Bw [_,_,_] H wn rfl rfl rfl rfl ?_;clear H;intro a H;refine gN FL (Li:=[_,_]) (L:=fD b ms ml mr mb mu 0 :: (mb,fB []) :: []) H wn rfl (JG 4294967297 (by omega) _ _ _ d.mP.styles d.mP.lists d.revs b ms ml mr mb mu ⟨0,[]⟩ d.flow _ true false 0 hck (Hp.owns (Li:=[_,_]) H.hp) hfl (by omega) (by omega) (by omega) (by decide) (by dsimp only;omega)) rfl ?_;clear H;rintro v52 _ _ a w ⟨rfl,s3,rfl,rfl,h3⟩ - H;dsimp only [lca,aZ] at H;refine kH H (ak fu rfl (SR fun _ gD=>Rm rfl (Rc rfl (Kz gD (Cd rfl ?_ ?_))))) <;> clear H fu gD
  ·intro gU a H
   try have p54:=dT gU
   have hE:mg d=(iY d.rM true false 0 d.flow ⟨0,[]⟩).1:=by rw [mg,cZ,ah (by simpa using e1),cZ,ah (by simpa using e2),cZ,au p54]
   exact kP H (SR fun _ jc=>Rm rfl (ak jc rfl (LR results33 rfl fun H=>H.rt (by rw [hE]))))
  intro gU a H
  try have p54:=dF gU
  have e3:=lY.1 p54;have hs3:=h3 e3;subst hs3;refine kP H (Kc gy (SR fun _ kg=>Rm rfl (Rk rfl (aR Cn aG 2 rfl rfl (Rc rfl ?_)))));clear H gy;intro a H;refine s_call iL H wn rfl (iN _ _ H.ro _ 9) rfl ?_;clear H;rintro v61 _ a w ⟨rfl,rfl⟩ - H
  have hE:mg d=bW (decide (16384 < (iY d.rM true false 0 d.flow ⟨0,[]⟩).2.n)) 9:=by rw [mg,cZ,ah (by simpa using e1),cZ,ah (by simpa using e2),cZ,ah (by simpa using e3)];exact MJ _
  exact kH H (ak kg rfl (LR results33 rfl fun H=>H.rt (by rw [hE])))
 skip;refine dI hmx [[],[],[1],[0,1,2],[],[4],[4,5],(ra 0 7),(ra 0 8),(ra 0 9),(ra 0 10),(ra 0 11),(ra 0 12),(ra 0 13),(ra 0 14),(ra 0 15),(ra 0 16),(ra 0 17),(ra 0 18),(ra 0 19),(ra 0 20),(ra 0 21)] [19,20,21] (by kernel_rfl) [_,_,xX d.fin (fq dp) (fq dd) (fq dy),vi (iw d.rM 3 d.fin),_,vi d.fin.marks.ins,_,_,_,vi d.fin.marks.move,_,.bool (decide (d.fin.marks.ins≠0∨d.fin.marks.move≠0)),_,_,fq dd,vi d.fin.marks.bZ.length,_,.bool (uJ d.fin.marks),vi (bW (uJ d.fin.marks) 21)] H (aD (Z0 rfl (Rm rfl)) (Z0 rfl (Rf I4 rfl)) ?_ ?_ (aD (Z0 rfl (Rf vo rfl)) (Z1 4 28 rfl (Ro aG 0 rfl)) (Z1 5 29 rfl (Rc rfl)) (Z1 6 30 rfl (Rm rfl)) (aD (Z1 7 31 rfl (YF AB (aO c0) rfl)) (Z2 8 32 7 31 rfl (YO aG 0 (aO c0) rfl)) (Z2 9 33 7 31 rfl (YC (aO c0) rfl)) ?_ (aD (Z1 11 35 rfl (Rm rfl)) (Z1 12 36 rfl (YF vv (aO c1) rfl)) (Z2 13 37 12 36 rfl (YO vO 0 (aO c1) rfl)) ?_ (aD (Z2 15 39 12 36 rfl (YC (aO c1) rfl)) ?_ ?_ (bL rfl) (aW (bL rfl) (aW (bL rfl) bY))))))) ?_
 ·refine dL 1 25 rfl rfl fun _ a w G1 hG HT H fin=>?_;refine bD pQ (cs:=[_,_,_,_,_]) H wn rfl rfl (H.hp.dY 1 rfl rfl) rfl ?_;clear H;intro a H;exact fin H iJ rfl
 ·refine dz 0 24 2 26 rfl rfl fun _ a w G1 hG HT H fin=>?_;refine gN Eb (Li:=[_,_]) (L:=fD b ms ml mr mb mu 0 :: (mb,fB []) :: []) H wn rfl (Es _ _ _ d.mP.styles d.mP.lists d.revs b ms ml mr mb mu _ (hck.mono hG) (Hp.owns (Li:=[_,_]) H.hp) 3 d.fin _ _ _ (hhd.mono hG) zh) rfl ?_;clear H;rintro v27 _ _ a w ⟨rfl,rfl,rfl⟩ F3 H;dsimp only [lca,aZ] at H;exact fin H F3 (rfl)
 ·refine dz 7 31 10 34 rfl rfl fun _ a w G1 hG HT H fin=>?_;refine kH H (Pf (aO c0) rfl ?_);clear H;intro a H;exact fin H iJ (by show _=_;first|exact aF (aC c1).symm|exact aF (by simp [c0]))
 ·refine dz 14 38 12 36 rfl rfl fun _ a w G1 hG HT H fin=>?_;refine kH H (YL pR (aO c1) rfl ?_);clear H;intro a H;exact fin H iJ (by show _=_;first|rfl|exact aA (fun n:Nat=>vi n) hdl)
 ·refine dz 12 36 16 40 rfl rfl fun _ a w G1 hG HT H fin=>?_;refine kH H (Pf (aO c1) rfl ?_);clear H;intro a H;exact fin H iJ (by show _=_;first|exact aF (jT (Or.inl c1)).symm|exact aF (by simp [uJ,c1]))
 ·refine dL 17 41 rfl rfl fun _ a w G1 hG HT H fin=>?_;refine s_call iL H wn rfl (iN _ _ H.ro _ 21) rfl ?_;clear H;rintro v42 Ih a w ⟨rfl,-⟩ F4 H;exact fin H F4 (rfl)
 clear H;intro a w G gH H hv;have H:=H.aQ (hv 3 27 rfl rfl) rfl;have H:=H.aQ (hv 18 42 rfl rfl) rfl;clear hv;refine gQ nJ fV [_,_] [_,_] H wn rfl rfl rfl rfl rfl (by intro i q h;match i,h with|0,h=>exact h|1,h=>exact h|n+2,h=>simp at h) rfl rfl ?_;clear H;intro Rw a w Ug H;obtain ⟨E9,vG,F8,H⟩:=H.dP;have Bd:=fun b o h=>vG b o (gH b o h);replace hfl:=hfl.mono Bd;replace hck:=hck.mono Bd;refine s_call oD H wn rfl (oF _ _ H.ro _ _ (vN F8)) rfl ?_;clear H;rintro v44 _ a w ⟨rfl,rfl⟩ - H;refine kH H (Ra rfl ?_);clear H;intro a H;refine aH ⟨rfl,?_⟩;refine K9 _ _ ?_;clear K9;refine kP H (SR fun _ jR=>Rm rfl (Rc rfl (Kz jR (Cd rfl ?_ ?_)))) <;> clear H jR
 ·intro h46 a H
  try have p46:=dT h46
  have hE:mg d=cZ [iw d.rM 3 d.fin,bW (uJ d.fin.marks) 21]:=by rw [mg,cZ,ah (by simpa using e1),cZ,au p46]
  exact kP H (SR fun _ jy=>Rm rfl (ak jy rfl (LR results33 rfl fun H=>H.rt (by rw [hE]))))
 intro h46 a H
 try have p46:=dF h46
 have e2:=lY.1 p46;refine kP H (Kc K8 (SQ fun _ kE=>SR fun _ kF=>Rm rfl (aR Cr gZ 1 rfl rfl ?_)));clear H K8;intro a H;refine jJ Bw [_,_,_] H wn rfl rfl rfl rfl ?_;clear H;intro a H;refine gN FL (Li:=[_,_]) (L:=fD b ms ml mr mb mu 0 :: (mb,fB []) :: []) H wn rfl (JG 4294967297 (by omega) _ _ _ d.mP.styles d.mP.lists d.revs b ms ml mr mb mu ⟨0,[]⟩ d.flow _ true false 0 hck (Hp.owns (Li:=[_,_]) H.hp) hfl (by omega) (by omega) (by omega) (by decide) (by dsimp only;omega)) rfl ?_;clear H;rintro v52 _ _ a w ⟨rfl,s3,rfl,rfl,h3⟩ - H;dsimp only [lca,aZ] at H;refine kH H (ak kF rfl (SR fun _ jd=>Rm rfl (Rc rfl (Kz jd (Cd rfl ?_ ?_))))) <;> clear H kF jd
 ·intro gU a H
  try have p54:=dT gU
  have hE:mg d=(iY d.rM true false 0 d.flow ⟨0,[]⟩).1:=by rw [mg,cZ,ah (by simpa using e1),cZ,ah (by simpa using e2),cZ,au p54]
  exact kP H (SR fun _ nL=>Rm rfl (ak nL rfl (LR results33 rfl fun H=>H.rt (by rw [hE]))))
 intro gU a H
 try have p54:=dF gU
 have e3:=lY.1 p54;have hs3:=h3 e3;subst hs3;refine kP H (Kc kE (SR fun _ og=>Rm rfl (Rk rfl (aR Cn aG 2 rfl rfl (Rc rfl ?_)))));clear H kE;intro a H;refine s_call iL H wn rfl (iN _ _ H.ro _ 9) rfl ?_;clear H;rintro v61 _ a w ⟨rfl,rfl⟩ - H
 have hE:mg d=bW (decide (16384 < (iY d.rM true false 0 d.flow ⟨0,[]⟩).2.n)) 9:=by rw [mg,cZ,ah (by simpa using e1),cZ,ah (by simpa using e2),cZ,ah (by simpa using e3)];exact MJ _
 exact kH H (ak og rfl (LR results33 rfl fun H=>H.rt (by rw [hE])))
end
section
open Go.RowKit
theorem Ml:∀ args w,(callFunc 32 args).run prog w=.ok (.enter 32 args) w:=enters func32 rfl (by kernel_rfl)
theorem abR:∀ args w,(callFunc 33 args).run prog w=.ok (.enter 33 args) w:=enters func33 rfl (by kernel_rfl)
theorem agI {d:vR} (h:mg d=0):yN d.flow:=by
 have h1:=uq h _ (jU _ (jU _ iB));exact yN.of (RZ h1)
abbrev za (b:Nat) (n:Int):Nat × Obj:=(b,.cells #[vi n] 3 (0,0))
def YV (bl:Nat) (left:Int) (z:Nat) (u:aj) (_:GH) (L':OL):Prop:=∃ b lf,u=.bool b∧L'=[za bl lf]∧left - (z:Int)≤lf∧lf≤left
def KV (n:Nat):Prop:=∀ (G:GH) (w0:World) (l:List ay) (v:aj) (EF left:Int) (bl:Nat),gW G [za bl left] w0→av G (.sl 11 (l.map ay.dat)) v→bg l < n→0≤EF→EF≤1000→left≤1000→-1000000000000≤left - (bg l:Int) →
 Calls prog 32 #[v,vi EF,(aI bl 0)] w0 (gF w0 G [za bl left] (YV bl left (bg l)))
theorem XU (l m:List bO):gT (l++m)=gT l+gT m:=by simp [gT,PL]
theorem XO (l m:List bN):iZ (l++m)=iZ l+iZ m:=by simp [iZ,PL]
theorem ajj {l:List ay} {k:Nat} (h:k < l.length):bg (l.take (k+1))=bg (l.take k)+(1+cB l[k].dat):=by rw [jE h,aji];simp [bg,eD]
theorem ajl {l:List bO} {k:Nat} (h:k < l.length):gT (l.take (k+1))=gT (l.take k)+(1+cB l[k].dat):=by rw [jE h,XU];simp [gT,eD]
theorem ajh {l:List bN} {k:Nat} (h:k < l.length):iZ (l.take (k+1))=iZ (l.take k)+(1+cB l[k].dat):=by rw [jE h,XO];simp [iZ,eD]
theorem XT (l:List ay) (k:Nat):bg (l.take k)≤bg l:=HZ (List.take_sublist k l)
theorem XV (l:List bO) (k:Nat):gT (l.take k)≤gT l:=by
 have:=XU (l.take k) (l.drop k);rw [List.take_append_drop] at this;omega
theorem XP (l:List bN) (k:Nat):iZ (l.take k)≤iZ l:=by
 have:=XO (l.take k) (l.drop k);rw [List.take_append_drop] at this;omega
set_option maxHeartbeats 4000000 in
theorem aio {n:Nat} (ih:KV n) (hn:n≤4294967296):KV (n+1):=by
 intro G w0 l v EF left bl hO hv hz hl0 hl1 hf1 hf0;obtain ⟨A,c,rfl,hc1,hc2,hg⟩:=hv.slice;rw [bT] at *;have hll:=BM l;refine jN (N:=133) (T:=[(0,_),(1,_),(2,_)]) func32 rfl ntmps32 rfl rfl hO ?_;intro a H;refine kP H (SR fun _ K1=>ak K1 rfl (SQ fun _ K2=>SR fun _ K3=>ak K3 rfl (SB ?_)));clear H K1 K3;intro a H;skip;refine eZ (ι:=Nat × Int × GH) (Tc:=[(0,_),(1,_),(2,_)]) (Lc:=[]) (fun gh=>[(7,vi gh.1)]) (fun gh=>[za bl gh.2.1]) (fun gh=>gh.2.2) (fun gh=>gh.1≤l.length∧left - (bg (l.take gh.1):Int)≤gh.2.1∧gh.2.1≤left∧(∀ b o,G b=some o→gh.2.2 b=some o)) (fun gh=>l.length - gh.1) ((0,left,G)) (by exact (H).sub ⟨rfl,rfl,rfl,rfl,aB⟩) ?_ ?_
 ·exact ⟨by omega,by show left - ((0:Nat):Int)≤left;omega,Int.le_refl _,fun _ _ h=>h⟩
 clear H;intro gh a w hI H;obtain ⟨k,lf,g⟩:=gh;dsimp only at hI H;obtain ⟨hk,hlo,hhi,hgm⟩:=hI;have hzk:=XT l k;dsimp only [lca,aZ] at H;refine kP H (SQ fun _ K4=>SR fun _ K5=>Rm rfl (Rm rfl (Rl gI rfl (Rc rfl (Kz K5 (Cd rfl ?_ ?_)))))) <;> clear H K5
 ·intro fK a H
  try have pK:=dT fK
  have hk2:k < l.length:=by omega
  obtain ⟨b,o,pA,pn,pc,dA,dn,dc,yA,yn,yc,fA,fn,fc,rA,rn,rc,rfl,hrow,hhd,hfl,hrw⟩:=zw hk2 hg;have hrn:=hrw.len;rw [bT] at hrn;subst hrn;have r3:aJ g b (o+k*11+3)=some (.string l[k].text):=aK hgm (hrow 3 _ rfl);have r4:aJ g b (o+k*11+4+0)=some (.slice pA pn pc):=aK hgm (hrow 4 _ rfl);have r9:aJ g b (o+k*11+9)=some (.slice fA fn fc):=aK hgm (hrow 9 _ rfl);have O4:aJ g b (o+k*11+10)=some (.slice rA l[k].rows.length rc):=aK hgm (hrow 10 _ rfl);have hzi:=nZ l[k];have hzs:=ajj hk2;have hzt:=XT l (k+1);refine kP H (Kc K4 (SQ fun _ K6=>SB (SR fun _ K7=>Rm rfl (Rk rfl (Ro aG 0 rfl (Rs rfl (Rk rfl ?_)))))));clear H K4;intro a H;refine bF aG 0 (vs:=[_]) _ H wn rfl rfl rfl rfl rfl rfl rfl rfl ?_;clear H;intro w H;dsimp only [List.set,setRow] at H;refine K7 _ _ ?_;clear K7;refine kP H (SQ fun _ K8=>SR fun _ K9=>Rm rfl (Rk rfl (Ro aG 0 rfl (Rc rfl (Rm rfl (Sp 25 rfl ?_ ?_)))))) <;> clear H
  ·intro kY a H
   try have p25:=dT kY
   refine kH H (aP kY rfl (Pt kY rfl (Rm rfl (aX rfl rfl (aP rfl rfl (aP rfl rfl (Pt rfl rfl (Rm rfl (aX rfl rfl (aX rfl rfl (aP rfl rfl (Pt rfl rfl (Rm rfl (aX rfl rfl (aP rfl rfl (aP rfl rfl (Pt rfl rfl (Rm rfl (aX rfl rfl (aX rfl rfl (aP rfl rfl (aP rfl rfl ?_))))))))))))))))))))));clear H;intro a H;exact kH H (Pt rfl rfl (Kz K9 (Ct rfl rfl (SR fun _ aS=>ak aS rfl (LR results32 rfl fun H=>H.hp.eB ⟨_,_,rfl,rfl,by omega,by omega⟩)))))
  intro kY a H
  try have p25:=dF kY
  refine kH H (YM kY rfl (YC kY rfl (Pf kY rfl (Rm rfl (Sp 29 rfl ?_ ?_))))) <;> clear H
  ·intro jG a H
   try have p29:=dT jG
   refine kH H (aX jG rfl (aP jG rfl (aP jG rfl (Pt jG rfl (Rm rfl (aX rfl rfl (aX rfl rfl (aP rfl rfl (Pt rfl rfl (Rm rfl (aX rfl rfl (aP rfl rfl (aP rfl rfl (Pt rfl rfl (Rm rfl (aX rfl rfl (aX rfl rfl (aP rfl rfl (aP rfl rfl (Pt rfl rfl (Kz K9 ?_)))))))))))))))))))));clear H K9;intro a H;refine vX H rfl rfl ?_;exact kP H (SR fun _ bA=>ak bA rfl (LR results32 rfl fun H=>H.hp.eB ⟨_,_,rfl,rfl,by omega,by omega⟩))
  intro jG a H
  try have p29:=dF jG
  refine kH H (YM jG rfl (YM jG rfl (YI gI dB jG rfl rfl (YF sS jG rfl (YR fZ jG rfl (by assumption) ?_)))));clear H;intro a H;refine Bv fP H (wg H rfl rfl jG) rfl rfl ?_;clear H;intro a H;refine kH H (YC jG rfl (Pf jG rfl (Rm rfl (Sp 38 rfl ?_ ?_)))) <;> clear H
  ·intro nP a H
   try have p38:=dT nP
   exact kH H (aX nP rfl (aX nP rfl (aP nP rfl (Pt nP rfl (Rm rfl (aX rfl rfl (aP rfl rfl (aP rfl rfl (Pt rfl rfl (Rm rfl (aX rfl rfl (aX rfl rfl (aP rfl rfl (aP rfl rfl (Pt rfl rfl (Kz K9 (Ct rfl rfl (SR fun _ bK=>ak bK rfl (LR results32 rfl fun H=>H.hp.eB ⟨_,_,rfl,rfl,by omega,by omega⟩)))))))))))))))))))
  intro nP a H
  try have p38:=dF nP
  refine kH H (YM nP rfl (YM nP rfl (YI gI dB nP rfl rfl (YF AL nP rfl (YF Cq nP rfl (YR Ah nP rfl (by assumption) ?_))))));clear H;intro a H;refine kH H (YL nY nP rfl (YC nP rfl (Pf nP rfl (Rm rfl (Sp 48 rfl ?_ ?_))))) <;> clear H
  ·intro h48 a H
   try have p48:=dT h48
   exact kH H (aX h48 rfl (aP h48 rfl (aP h48 rfl (Pt h48 rfl (Rm rfl (aX rfl rfl (aX rfl rfl (aP rfl rfl (aP rfl rfl (Pt rfl rfl (Kz K9 (Ct rfl rfl (SR fun _ bR=>ak bR rfl (LR results32 rfl fun H=>H.hp.eB ⟨_,_,rfl,rfl,by omega,by omega⟩))))))))))))))
  intro h48 a H
  try have p48:=dF h48
  refine kH H (YM h48 rfl (YM h48 rfl (YI gI dB h48 rfl rfl (YF qg h48 rfl (YR qz h48 rfl (by assumption) ?_)))));clear H;intro a H;refine kH H (YL mG h48 rfl (YC h48 rfl (Pf h48 rfl (Rm rfl (Sp 57 rfl ?_ ?_))))) <;> clear H
  ·intro h57 a H
   try have p57:=dT h57
   exact kH H (aX h57 rfl (aX h57 rfl (aP h57 rfl (aP h57 rfl (Pt h57 rfl (Kz K9 (Ct rfl rfl (SR fun _ bP=>ak bP rfl (LR results32 rfl fun H=>H.hp.eB ⟨_,_,rfl,rfl,by omega,by omega⟩)))))))))
  intro h57 a H
  try have p57:=dF h57
  refine kH H (YM h57 rfl (YM h57 rfl (YI gI dB h57 rfl rfl (YF xR h57 rfl (YR gZ h57 rfl (by assumption) ?_)))));clear H;intro a H;refine kH H (YM h57 rfl ?_);clear H;intro a H;refine mF _ H (wg H rfl rfl h57) rfl rfl rfl (by omega) (by omega) rfl ?_;clear H;intro a H;refine kH H (YM h57 rfl ?_);clear H;intro a H;refine gN Ml (Li:=[]) (L:=[za bl _]) H (wg H rfl rfl h57) rfl (ih _ _ l[k].flow _ (EF - 1) _ bl (Hp.owns (Li:=[]) H.hp) (hfl.mono hgm) (by omega) (by omega) (by omega) (by omega) (by omega)) rfl ?_;clear H;rintro v66 Yu L66 a w ⟨b66,lf66,rfl,rfl,ajR,ajO⟩ Uu H;dsimp only [List.nil_append] at H;replace O4:=aK Uu O4;have aeJ:=fun b o h=>Uu b o (hgm b o h);refine kH H (YN h57 rfl (Pf h57 rfl (Kz K9 (Cd rfl ?_ ?_)))) <;> clear H K9
  ·intro h68 a H
   try have p68:=dT h68
   exact kP H (SR fun _ dJ=>ak dJ rfl (LR results32 rfl fun H=>H.hp.eB ⟨_,_,rfl,rfl,by omega,by omega⟩))
  intro h68 a H
  try have p68:=dF h68
  refine kP H (Kc K8 (SR fun _ dN=>ak dN rfl (SB ?_)));clear H K8 dN;intro a H;skip;refine eZ (ι:=Nat × Int × GH) (Tc:=[(0,_),(1,_),(2,_),(7,_)]) (Lc:=[]) (fun gh=>[(8,vi gh.1)]) (fun gh=>[za bl gh.2.1]) (fun gh=>gh.2.2) (fun gh=>gh.1≤l[k].rows.length∧lf66 - (gT (l[k].rows.take gh.1):Int)≤gh.2.1∧gh.2.1≤lf66∧(∀ b o,G b=some o→gh.2.2 b=some o)∧aJ gh.2.2 b (o+k*11+10)=some (.slice rA l[k].rows.length rc)) (fun gh=>l[k].rows.length - gh.1) ((0,lf66,Yu)) (by exact (H).sub ⟨rfl,rfl,rfl,rfl,rfl,aB⟩) ?_ ?_
  ·exact ⟨by omega,by show lf66 - ((0:Nat):Int)≤lf66;omega,Int.le_refl _,aeJ,O4⟩
  clear H;intro gh a w hI H;obtain ⟨j,lf2,g2⟩:=gh;dsimp only at hI H;obtain ⟨hj,hlo2,hhi2,nR,q10⟩:=hI;have akh:=XV l[k].rows j;dsimp only [lca,aZ] at H;refine kP H (SQ fun _ dx=>SR fun _ eu=>Rm rfl (Rm rfl (Rm rfl (Ri gI dB rfl rfl (Rf qg rfl (Rg qz rfl (by assumption) ?_))))));clear H;intro a H;refine kH H (Rl mG rfl (Rc rfl (Kz eu (Cd rfl ?_ ?_)))) <;> clear H eu
  ·intro zC a H
   try have OU:=dT zC
   have hj2:j < l[k].rows.length:=by omega
   obtain ⟨b2,o2,uA,un,uc,eA,en,ec,zA,zn,zc,cA,cn,cc,rfl,hrow2,zR,hcl⟩:=GV hj2 (hrw.mono nR).at_;have hcn:=hcl.len;rw [bT] at hcn;subst hcn;have t5:aJ g2 b2 (o2+j*6+5)=some (.slice cA l[k].rows[j].cells.length cc):=hrow2 5 _ rfl;have akf:=Ar l[k].rows[j];have akj:=ajl hj2;have akl:=XV l[k].rows (j+1);refine kP H (Kc dx (SQ fun _ gy=>SB (SQ fun _ fu=>SR fun _ gD=>Rm rfl (Rm rfl (Ri gI dB rfl rfl (Rf qg rfl (Rg qz rfl (by assumption) ?_)))))));clear H dx;intro a H;refine kH H (Rm rfl (Ri mG jQ rfl rfl (Rf vC rfl (Rg vQ rfl (by assumption) ?_))));clear H;intro a H;refine kH H (Rl pU rfl (Rc rfl (Kz gD (Cd rfl ?_ ?_)))) <;> clear H gD
   ·intro MZ a H
    try have p89:=dT MZ
    exact kP H (SR fun _ jc=>ak jc rfl (LR results32 rfl fun H=>H.hp.eB ⟨_,_,rfl,rfl,by omega,by omega⟩))
   intro MZ a H
   try have p89:=dF MZ
   refine kP H (Kc fu (SR fun _ kg=>ak kg rfl (SB ?_)));clear H fu kg;intro a H;skip;refine eZ (ι:=Nat × Int × GH) (Tc:=[(0,_),(1,_),(2,_),(7,_),(8,_)]) (Lc:=[]) (fun gh=>[(9,vi gh.1)]) (fun gh=>[za bl gh.2.1]) (fun gh=>gh.2.2) (fun gh=>gh.1≤l[k].rows[j].cells.length∧lf2 - (iZ (l[k].rows[j].cells.take gh.1):Int)≤gh.2.1∧gh.2.1≤lf2∧(∀ b o,G b=some o→gh.2.2 b=some o)∧aJ gh.2.2 b (o+k*11+10)=some (.slice (some ⟨b2,o2,none⟩) l[k].rows.length rc)∧aJ gh.2.2 b2 (o2+j*6+5)=some (.slice cA l[k].rows[j].cells.length cc)∧(∀ b o,g2 b=some o→gh.2.2 b=some o)) (fun gh=>l[k].rows[j].cells.length - gh.1) ((0,lf2,g2)) (by exact (H).sub ⟨rfl,rfl,rfl,rfl,rfl,rfl,aB⟩) ?_ ?_
   ·exact ⟨by omega,by show lf2 - ((0:Nat):Int)≤lf2;omega,Int.le_refl _,nR,q10,t5,fun _ _ h=>h⟩
   clear H;intro gh a w hI H;obtain ⟨m,lf3,g3⟩:=gh;dsimp only at hI H;obtain ⟨hm,hlo3,hhi3,zN,s10,s5,Um⟩:=hI;have aki:=XP l[k].rows[j].cells m;dsimp only [lca,aZ] at H;refine kP H (SQ fun _ jR=>SR fun _ jy=>Rm rfl (Rm rfl (Rm rfl (Ri gI dB rfl rfl (Rf qg rfl (Rg qz rfl (by assumption) ?_))))));clear H;intro a H;refine kH H (Rm rfl (Ri mG jQ rfl rfl (Rf vC rfl (Rg vQ rfl (by assumption) ?_))));clear H;intro a H;refine kH H (Rl pU rfl (Rc rfl (Kz jy (Cd rfl ?_ ?_)))) <;> clear H jy
   ·intro MO a H
    try have agN:=dT MO
    have hm2:m < l[k].rows[j].cells.length:=by omega
    obtain ⟨b3,o3,x1,x2,x3,x4,x5,x6,x7,x8,x9,gA,gn,gc,rfl,hrow3,hch,hcf⟩:=FB hm2 (hcl.mono Um).at_;have u6:aJ g3 b3 (o3+m*7+6)=some (.slice gA gn gc):=hrow3 6 _ rfl;have akg:=Aq l[k].rows[j].cells[m];have akk:=ajh hm2;have akm:=XP l[k].rows[j].cells (m+1);refine kP H (Kc jR (SQ fun _ kE=>SB (SR fun _ kF=>Rm rfl (Rk rfl (Ro aG 0 rfl (Rs rfl (Rk rfl ?_)))))));clear H jR;intro a H;refine bF aG 0 (vs:=[_]) _ H wn rfl rfl rfl rfl rfl rfl rfl rfl ?_;clear H;intro w H;dsimp only [List.set,setRow] at H;refine kF _ _ ?_;clear kF;refine kP H (SR fun _ jd=>Rm rfl (Rk rfl (Ro aG 0 rfl (Rc rfl (Rm rfl (Sp 113 rfl ?_ ?_)))))) <;> clear H
    ·intro jX a H
     try have agP:=dT jX
     exact kH H (aX jX rfl (aX jX rfl (aX jX rfl (aX jX rfl (aX jX rfl (aX jX rfl (Pt jX rfl (Kz jd (Ct rfl rfl (SR fun _ nL=>ak nL rfl (LR results32 rfl fun H=>H.hp.eB ⟨_,_,rfl,rfl,by omega,by omega⟩)))))))))))
    intro jX a H
    try have agP:=dF jX
    refine kH H (YM jX rfl (YM jX rfl (YI gI dB jX rfl rfl (YF qg jX rfl (YR qz jX rfl (by assumption) ?_)))));clear H;intro a H;refine kH H (YM jX rfl (YI mG jQ jX rfl rfl (YF vC jX rfl (YR vQ jX rfl (by assumption) ?_))));clear H;intro a H;refine kH H (YM jX rfl (YI pU lT jX rfl rfl (YF Ej jX rfl (YR gZ jX rfl (by assumption) ?_))));clear H;intro a H;refine kH H (YM jX rfl ?_);clear H;intro a H;refine mF _ H (wg H rfl rfl jX) rfl rfl rfl (by omega) (by omega) rfl ?_;clear H;intro a H;refine kH H (YM jX rfl ?_);clear H;intro a H;refine gN Ml (Li:=[]) (L:=[za bl _]) H (wg H rfl rfl jX) rfl (ih _ _ l[k].rows[j].cells[m].flow _ (EF - 1) _ bl (Hp.owns (Li:=[]) H.hp) hcf (by omega) (by omega) (by omega) (by omega) (by omega)) rfl ?_;clear H;rintro v130 Ye ajp a w ⟨ajs,afZ,rfl,rfl,ajQ,ajN⟩ Jo H;dsimp only [List.nil_append] at H;refine kH H (YN jX rfl (Pf jX rfl (Kz jd (Cd rfl ?_ ?_)))) <;> clear H jd
    ·intro AU a H
     try have V4:=dT AU
     exact kP H (SR fun _ og=>ak og rfl (LR results32 rfl fun H=>H.hp.eB ⟨_,_,rfl,rfl,by omega,by omega⟩))
    intro AU a H
    try have V4:=dF AU
    refine kP H (Kc kE (SC (Rm rfl (Rd rfl (Ra rfl ?_)))));clear H kE;intro a H;refine aH ?_;refine dw ((m+1,afZ,Ye)) (by exact (H).sub ⟨rfl,rfl,rfl,rfl,rfl,rfl,aB⟩) ?_ ?_
    ·(try dsimp only);exact ⟨by omega,by omega,by omega,fun b o h=>Jo b o (zN b o h),aK Jo s10,aK Jo s5,fun b o h=>Jo b o (Um b o h)⟩
    first|omega|(dsimp only;omega)
   intro MO a H
   try have agN:=dF MO
   refine dW ?_;refine gy _ _ ?_;clear gy;refine kP H (SC (Rm rfl (Rd rfl (Ra rfl ?_))));clear H;intro a H;refine aH ?_;refine dw ((j+1,lf3,g3)) (by exact (H).sub ⟨rfl,rfl,rfl,rfl,rfl,aB⟩) ?_ ?_
   ·(try dsimp only);exact ⟨by omega,by omega,by omega,zN,s10⟩
   first|omega|(dsimp only;omega)
  intro zC a H
  try have OU:=dF zC
  refine dW ?_;refine K6 _ _ ?_;clear K6;refine kP H (SC (Rm rfl (Rd rfl (Ra rfl ?_))));clear H;intro a H;refine aH ?_;refine dw ((k+1,lf2,g2)) (by exact (H).sub ⟨rfl,rfl,rfl,rfl,aB⟩) ?_ ?_
  ·(try dsimp only);exact ⟨by omega,by omega,by omega,nR⟩
  first|omega|(dsimp only;omega)
 intro fK a H
 try have pK:=dF fK
 refine dW ?_;refine K2 _ _ ?_;clear K2;exact kP H (SR fun _ oP=>ak oP rfl (LR results32 rfl fun H=>H.hp.eB ⟨_,_,rfl,rfl,by omega,by omega⟩))
theorem WU:∀ n:Nat,n≤4294967296→KV n
 | 0,_=>fun _ _ _ _ _ _ _ _ _ hz=>absurd hz (Nat.not_lt_zero _)
 | n+1,h=>aio (WU n (by omega)) (by omega)
theorem ain (G:GH) (w0:World) (hG:Hold G w0) (D:nK) (d:vR) (hR:BO G D d) (hz:Ia d) :
  Calls prog 10 #[D.val] w0 (bC w0 G fun u G'=>∃ b,u=.bool b∧(b=true→mg d=0)):=by
 have C8:=hz.fl;refine eN [(0,_)] func10 rfl ntmps10 rfl rfl hG ?_;intro a H;refine cO (fun _ K1=>?_);refine fC (cs:=[_,_,_,_,_,_,_,_,_,_,_]) H wn rfl rfl rfl ?_;clear H;intro b1 a w hb1 H;refine kH H (ak K1 rfl (SQ fun _ K2=>?_));clear H K1;intro a H;obtain ⟨Ga,hma,hb1',H⟩:=H.dP;have hga:=fun j v hj=>zx hb1' 0 D.cells rfl j v hj;have hgs:=fun j v hj=>zx hb1' 7 [fq D.s1,fq D.s2,fq D.s3,fq D.s4] rfl j v hj
 have hgr:aJ Ga b1 6=some (fq D.r):=by unfold aJ;rw [hb1'];rfl
 have hgf:aJ Ga b1 0=some (fq D.f):=by unfold aJ;rw [hb1'];rfl
 replace hR:=hR.mono hma;refine oz ?_;refine eU aG H wn rfl ?_;clear H;intro b3 a w hb3 H;refine bF aG 0 (vs:=[_]) _ H wn rfl rfl rfl rfl rfl rfl rfl rfl ?_;clear H;intro w H;dsimp only [List.set,setRow] at H;refine kH H (Kn K2 (SR fun _ K3=>Rf I5 rfl ?_));clear H K2;intro a H;refine bD Kq (cs:=[fq D.s1,fq D.s2,fq D.s3,fq D.s4]) H wn rfl rfl (fun j v hj=>H.hp.aJ (hgs j v hj)) rfl ?_;clear H;intro a H;refine eU Kq H wn rfl ?_;clear H;intro b4 a w hb4 H;refine bF Kq 0 (vs:=[_,_,_,_]) _ H wn rfl rfl rfl rfl rfl rfl rfl rfl ?_;clear H;intro w H;dsimp only [List.set,setRow] at H;refine K3 _ _ ?_;clear K3;refine kP H (SR fun _ K4=>aR TB Dz 0 rfl rfl (Rl BH rfl (Rc rfl (Rm rfl (Sp 11 rfl ?_ ?_))))) <;> clear H
 ·intro h11 a H
  try have mZ:=dT h11
  refine kH H (YF ME h11 rfl (YO qZ 0 h11 rfl (YL mR h11 rfl (YC h11 rfl (Pt h11 rfl (Rm rfl (Sp 17 rfl ?_ ?_))))))) <;> clear H
  ·intro dS a H
   try have lS:=dT dS
   refine kH H (YF MF dS rfl (YO Dy 0 dS rfl (YL DF dS rfl (YC dS rfl (Pt dS rfl (Rm rfl (Sp 23 rfl ?_ ?_))))))) <;> clear H
   ·intro h23 a H
    try have rY:=dT h23
    refine kH H (YF TD h23 rfl (YO vP 0 h23 rfl (YL xq h23 rfl (YC h23 rfl (Pt h23 rfl (Rm rfl (Sp 29 rfl ?_ ?_))))))) <;> clear H
    ·intro jG a H
     try have p29:=dT jG
     refine kH H (YF MG jG rfl (YR BA jG rfl (by assumption) ?_));clear H;intro a H;refine kH H (YL BG jG rfl (YC jG rfl (Pt jG rfl (Rm rfl (Sp 35 rfl ?_ ?_))))) <;> clear H
     ·intro mH a H
      try have p35:=dT mH
      refine kH H (YF Cr mH rfl (YR gZ mH rfl (by assumption) ?_));clear H;intro a H;refine gN Ml (Li:=[_]) (L:=[za b3 150]) H (wg H rfl rfl mH) rfl (WU 4294967296 (bU _) _ _ d.flow _ 12 150 b3 (Hp.owns (Li:=[_]) H.hp) hR.fl (by omega) (by decide) (by decide) (by decide) (by omega)) rfl ?_;clear H;rintro v38 KM L38 a w ⟨Zk,lf38,rfl,rfl,-,-⟩ Eu H;refine kH H (Pt mH rfl (Rm rfl (Sp 40 rfl ?_ ?_))) <;> clear H
      ·intro kM a H
       try have p40:=dT kM
       refine bD ru (cs:=D.cells) H (wg H rfl rfl kM) rfl rfl (fun j v hj=>H.hp.aJ (aK Eu (hga j v hj))) rfl ?_;clear H;intro a H;refine s_call abR H (wg H rfl rfl kM) rfl (Z7 _ _ H.ro D d (hR.mono Eu) hz) rfl ?_;clear H;rintro v42 Ih a w rfl Gj H;exact kH H (YC kM rfl (Pt kM rfl (ak K4 rfl (LR results10 rfl fun H=>H.rt ⟨_,rfl,fun h=>by first|assumption|(simp_all;done)⟩))))
      intro kM a H
      try have p40:=dF kM
      exact kH H (aX kM rfl (Pf kM rfl (ak K4 rfl (LR results10 rfl fun H=>H.rt ⟨_,rfl,fun h=>by first|assumption|(simp_all;done)⟩))))
     intro mH a H
     try have p35:=dF mH
     exact kH H (aX mH rfl (Pf mH rfl (Rm rfl (aX rfl rfl (Pf rfl rfl (ak K4 rfl (LR results10 rfl fun H=>H.rt ⟨_,rfl,fun h=>by first|assumption|(simp_all;done)⟩)))))))
    intro jG a H
    try have p29:=dF jG
    exact kH H (aP jG rfl (aP jG rfl (Pf jG rfl (Rm rfl (aX rfl rfl (Pf rfl rfl (Rm rfl (aX rfl rfl (Pf rfl rfl (ak K4 rfl (LR results10 rfl fun H=>H.rt ⟨_,rfl,fun h=>by first|assumption|(simp_all;done)⟩)))))))))))
   intro h23 a H
   try have rY:=dF h23
   exact kH H (aP h23 rfl (aP h23 rfl (Pf h23 rfl (Rm rfl (aP rfl rfl (aP rfl rfl (Pf rfl rfl (Rm rfl (aX rfl rfl (Pf rfl rfl (Rm rfl (aX rfl rfl (Pf rfl rfl (ak K4 rfl (LR results10 rfl fun H=>H.rt ⟨_,rfl,fun h=>by first|assumption|(simp_all;done)⟩)))))))))))))))
  intro dS a H
  try have lS:=dF dS
  exact kH H (aP dS rfl (aP dS rfl (Pf dS rfl (Rm rfl (aP rfl rfl (aP rfl rfl (Pf rfl rfl (Rm rfl (aP rfl rfl (aP rfl rfl (Pf rfl rfl (Rm rfl (aX rfl rfl (Pf rfl rfl (Rm rfl (aX rfl rfl (Pf rfl rfl (ak K4 rfl (LR results10 rfl fun H=>H.rt ⟨_,rfl,fun h=>by first|assumption|(simp_all;done)⟩)))))))))))))))))))
 intro h11 a H
 try have mZ:=dF h11
 exact kH H (aP h11 rfl (aP h11 rfl (Pf h11 rfl (Rm rfl (aP rfl rfl (aP rfl rfl (Pf rfl rfl (Rm rfl (aP rfl rfl (aP rfl rfl (Pf rfl rfl (Rm rfl (aP rfl rfl (aP rfl rfl (Pf rfl rfl (Rm rfl (aX rfl rfl (Pf rfl rfl (Rm rfl (aX rfl rfl (Pf rfl rfl (ak K4 rfl (LR results10 rfl fun H=>H.rt ⟨_,rfl,fun h=>by first|assumption|(simp_all;done)⟩)))))))))))))))))))))))
end
section
open Go.RowKit
theorem SX:∀ args w,(callFunc 9 args).run prog w=.ok (.enter 9 args) w:=enters func9 rfl (by kernel_rfl)
theorem aaT:∀ args w,(callFunc 10 args).run prog w=.ok (.enter 10 args) w:=enters func10 rfl (by kernel_rfl)
theorem Sv:∀ args w,(callFunc 15 args).run prog w=.ok (.enter 15 args) w:=enters func15 rfl (by kernel_rfl)
theorem Sm:∀ args w,(callFunc 13 args).run prog w=.ok (.enter 13 args) w:=enters func13 rfl (by kernel_rfl)
theorem abM:∀ args w,(callFunc 16 args).run prog w=.ok (.enter 16 args) w:=enters func16 rfl (by kernel_rfl)
theorem Ze {l:List ay} (h:yN l):(fJ 0 0 l).Nodup:=by
 have h1:=(IB 0 0 l h.ok).nodup h.vnd
 unfold List.Nodup at h1
 rw [List.pairwise_map] at h1;exact h1.imp fun hne e=>hne (by rw [e])
theorem WY (A:List bJ) (c:Int):(qx A c).length≤A.length:=by
 have:=Px A c A.length (bU _)
 unfold qy at this
 rwa [yY] at this
theorem Za (x:bJ):([(0,0),(1,0),(2,1),(3,2)].all fun o=>iR (x.cells.toArray) o == iR (x.cells.toArray) o)=true:=by
 simp [bJ.cells]
set_option maxHeartbeats 2000000 in
theorem Zf (G:GH) (w0:World) (hG:Hold G w0) (D:nK) (d:vR) (hR:BO G D d) (hz:Ia d) :
  Calls prog 3 #[D.val] w0 (bC w0 G fun u G'=>u=.bool true):=by
 have C8:=hz.fl;have Uf:=yS 0 0 d.flow;refine eN [(0,_)] func3 rfl ntmps3 rfl rfl hG ?_;intro a H;refine cO (fun _ K1=>?_);refine fC (cs:=[_,_,_,_,_,_,_,_,_,_,_]) H wn rfl rfl rfl ?_;clear H;intro b1 a w hb1 H;refine kH H (ak K1 rfl (SQ fun _ K2=>SQ fun _ K3=>?_));clear H K1;intro a H;obtain ⟨Ga,hma,hb1',H⟩:=H.dP;have hga:=fun j v hj=>zx hb1' 0 D.cells rfl j v hj;replace hR:=hR.mono hma;refine oz ?_;refine s_call SX H wn rfl (Vl _ _ H.ro) rfl ?_;clear H;rintro v6 G6 a w rfl Jq H;replace hR:=hR.mono Jq;replace hga:=fun j v hj=>aK Jq (hga j v hj);refine kH H (Rn rfl (Rm rfl (Sp 8 rfl ?_ ?_))) <;> clear H
 ·intro h8 a H
  exact absurd h8 (by decide)
 intro h8 a H
 try have p8:=dF h8
 first
 | (exfalso;omega)
 | (exact absurd h8 (by decide))
 |skip
  refine bD ru (cs:=D.cells) H (wg H rfl rfl h8) rfl rfl (fun j v hj=>H.hp.aJ (hga j v hj)) rfl ?_;clear H;intro a H;refine s_call aaT H (wg H rfl rfl h8) rfl (ain _ _ H.ro D d hR hz) rfl ?_;clear H;rintro v10 uR a w ⟨b10,rfl,F7⟩ uD H;replace hR:=hR.mono uD;replace hga:=fun j v hj=>aK uD (hga j v hj);refine kH H (YN h8 rfl (Pf h8 rfl (Kn K3 (Cd rfl ?_ ?_)))) <;> clear H K3
  ·intro h12 a H
   try have oJ:=dT h12
   first
   | (exfalso;omega)
   | (exact absurd h12 (by decide))
   |skip
    refine cO (fun _ K4=>?_);refine s_call SX H wn rfl (Vl _ _ H.ro) rfl ?_;clear H;rintro v13 DJ a w rfl Gg H;exact kH H (ak K4 rfl (LR results3 rfl fun H=>H.rt rfl))
  intro h12 a H
  try have oJ:=dF h12
  first
  | (exfalso;omega)
  | (exact absurd h12 (by decide))
  |skip
   refine fO ?_;refine K2 _ _ ?_;clear K2;refine bq (fun _ K5=>?_)
   have hc:mg d=0:=by first|exact F7 (by assumption)|(simp_all;done)
   have hok:=agI hc;obtain ⟨l,hl⟩:∃ l,l=d.flow:=⟨_,rfl⟩;have hfl:=hR.fl;rw [← hl] at hok C8 hfl Uf;have hgf:aJ uR b1 0=some (fq D.f):=hga 0 _ rfl;obtain ⟨A,hA⟩:∃ A,A=fJ 0 0 l:=⟨_,rfl⟩;have hnd:=Ze hok;have Ba:=Fw 0 0 l;rw [← hA] at hnd Ba Uf
   have EA:∀ (bS:Nat) (v:aj) (G G':GH),(∀ k o,G k=some o→G' k=some o)→(fun (bS:Nat) (v:aj) (G:GH)=>match bS with|0=>v=.agg D.cells.toArray|1=>av G (.sl 5 (A.map bJ.dat)) v|2=>v=(aI b1 0)|3=>v=fq D.f|4=>av G (.sl 5 (A.map bJ.dat)) v|_=>True) bS v G→(fun (bS:Nat) (v:aj) (G:GH)=>match bS with|0=>v=.agg D.cells.toArray|1=>av G (.sl 5 (A.map bJ.dat)) v|2=>v=(aI b1 0)|3=>v=fq D.f|4=>av G (.sl 5 (A.map bJ.dat)) v|_=>True) bS v G':=by
    intro bS v G G' hm h
    match bS,h with
    | 0,h=>exact h
    | 1,h=>exact av.mono hm h
    | 2,h=>exact h
    | 3,h=>exact h
    | 4,h=>exact av.mono hm h
    | 5,h=>exact trivial
    | 6,h=>exact trivial
    | _+7,h=>exact trivial
   refine AA (hmx) [[],[0],[],[2],(ra 0 4),(ra 0 5),(ra 0 6)] [5,6] (by kernel_rfl) (by kernel_rfl) (fun (bS:Nat) (v:aj) (G:GH)=>match bS with|0=>v=.agg D.cells.toArray|1=>av G (.sl 5 (A.map bJ.dat)) v|2=>v=(aI b1 0)|3=>v=fq D.f|4=>av G (.sl 5 (A.map bJ.dat)) v|_=>True) EA H ?_ ?_
   ·clear H;refine aD ?_ ?_ ?_ ?_ (aW ?_ (aW (bL rfl) (aW (bL rfl) bY)))
    ·refine dM [] rfl trivial (by kernel_rfl) EA rfl rfl ?_;intro bQ a w G1 hG HT H fin;refine bD ru (cs:=D.cells) H wn rfl rfl (fun j v hj=>H.hp.aJ (aK hG (hga j v hj))) rfl ?_;clear H;intro a H;exact fin H iJ rfl
    ·refine dM [(0,14,_)] rfl ⟨fun _ _ h=>h,aB⟩ (by kernel_rfl) EA rfl rfl ?_;intro bQ a w G1 hG HT H fin;refine s_call Si H wn rfl (Vq _ _ H.ro D l (hfl.mono hG) hok.ok (by omega)) rfl ?_;clear H;rintro v15 BP a w nS zG H;rw [← hA] at nS;exact fin H zG (nS)
    ·refine dM [] rfl trivial (by kernel_rfl) EA rfl rfl ?_;intro bQ a w G1 hG HT H fin;exact kH H (Rf Cr rfl fun _ H=>fin H iJ rfl)
    ·refine dM [(2,16,_)] rfl ⟨fun _ _ h=>h,aB⟩ (by kernel_rfl) EA rfl rfl ?_;intro bQ a w G1 hG HT H fin;exact kH H (Rg gZ rfl (aK hG hgf) fun _ H=>fin H iJ rfl)
    refine dM [(3,17,_)] rfl ⟨fun _ _ h=>h,aB⟩ (by kernel_rfl) EA rfl rfl ?_;intro bQ a w G1 hG HT H fin;refine s_call Mh H wn rfl (VH 1073741825 (bU _) _ _ H.ro 0 l _ (hfl.mono hG) hok.ok (by omega)) rfl ?_;clear H;rintro v18 KI a w ku M7 H;rw [← hA] at ku;exact fin H M7 (ku)
   clear H;intro a w G Jd H hv;obtain ⟨u15,Oc,nS⟩:=hv 1 15 (by decide) rfl;(try dsimp only at nS);obtain ⟨A3,n3,c3,rfl⟩:=nS.form;have wJ:=nS.len;rw [bT] at wJ;subst wJ;have H:=H.jS Oc;obtain ⟨u18,Od,ku⟩:=hv 4 18 (by decide) rfl;(try dsimp only at ku);obtain ⟨A4,n4,c4,rfl⟩:=ku.form;have NT:=ku.len;rw [bT] at NT;subst NT;have H:=H.jS Od;clear hv;refine kH H (Ra rfl (Ra rfl ?_));clear H;intro a H;refine aH ⟨rfl,?_⟩;refine K5 _ _ ?_;clear K5;refine bq (fun _ K6=>?_);refine bq (fun _ K7=>?_);replace nS:av G (.sl 5 (A.map bJ.dat)) (.slice A3 A.length c3):=nS;replace ku:av G (.sl 5 (A.map bJ.dat)) (.slice A4 A.length c4):=ku;replace hfl:=hfl.mono Jd;replace hga:=fun j v hj=>aK Jd (hga j v hj);refine kP H (SC (Rm rfl (Rl jY rfl (Rm rfl (Rl jY rfl (Rc rfl (Kn K7 (Cd rfl ?_ ?_)))))))) <;> clear H K7
   ·intro h23 a H
    exact absurd h23 (by simp)
   intro h23 a H
   try have rY:=dF h23
   first
   | (exfalso;omega)
   | (exact absurd h23 (by decide))
   |skip
    refine kP H (Kc K6 (SQ fun _ K8=>SR fun _ K9=>ak K9 rfl (SB ?_)));clear H K6 K9;intro a H;skip;refine eZ (ι:=Nat × GH) (Tc:=[(1,_),(3,_),(4,_)]) (Lc:=[]) (fun gh=>[(5,vi gh.1)]) (fun gh=>[]) (fun gh=>gh.2) (fun gh=>gh.1≤A.length∧(∀ b o,G b=some o→gh.2 b=some o)) (fun gh=>A.length - gh.1) ((0,G)) (by exact (H).sub ⟨rfl,rfl,rfl,rfl,aB⟩) ?_ ?_
    ·exact ⟨iK _,fun _ _ h=>h⟩
    clear H;intro gh a w hI H;obtain ⟨k,g⟩:=gh;dsimp only at hI H;obtain ⟨hk,hgm⟩:=hI;dsimp only [lca,aZ] at H;refine kP H (SQ fun _ aS=>SR fun _ bA=>Rm rfl (Rm rfl (Rl jY rfl (Rc rfl (Kz bA (Cd rfl ?_ ?_)))))) <;> clear H bA
    ·intro h27 a H
     try have p27:=dT h27
     first
     | (exfalso;omega)
     | (exact absurd h27 (by decide))
     |skip
      have hk2:k < A.length:=by omega
      obtain ⟨b,o,rfl,hrow⟩:=Cj (nS.mono hgm) hk2;obtain ⟨b',o',rfl,hrow'⟩:=Cj (ku.mono hgm) hk2;refine kP H (Kc aS (SQ fun _ bK=>SB (SQ fun _ bR=>?_)));clear H aS;intro a H;refine dI hmx [[],[],[0,1],[0,1,2],[],[],[4,5],[4,5,6],(ra 0 8)] [] (by kernel_rfl) [_,_,_,.agg A[k].cells.toArray,_,_,_,.agg A[k].cells.toArray,.bool false] H (aD (Z0 rfl (Rm rfl)) (Z0 rfl (Rm rfl)) (Z2 0 30 1 31 rfl (Ri jY iV rfl rfl)) ?_ (aD (Z0 rfl (Rm rfl)) (Z0 rfl (Rm rfl)) (Z2 4 34 5 35 rfl (Ri jY iV rfl rfl)) ?_ (aW ?_ bY))) ?_
      ·refine dL 2 32 rfl rfl fun _ a w G1 hG HT H fin=>?_;refine bD iV (cs:=A[k].cells) H wn rfl rfl (fun j v hj=>H.hp.aJ (aK hG (hrow j v hj))) rfl ?_;clear H;intro a H;exact fin H iJ rfl
      ·refine dL 6 36 rfl rfl fun _ a w G1 hG HT H fin=>?_;refine bD iV (cs:=A[k].cells) H wn rfl rfl (fun j v hj=>H.hp.aJ (aK hG (hrow' j v hj))) rfl ?_;clear H;intro a H;exact fin H iJ rfl
      ·refine dz 3 33 7 37 rfl rfl fun _ a w G1 hG HT H fin=>?_;refine Pp S9 H wn rfl rfl rfl rfl ?_;clear H;intro a H;exact fin H iJ (aF (by rw [Za];rfl))
      clear H;intro a w G F5 H hv;have H:=H.aQ (hv 8 38 rfl rfl) rfl;clear hv;refine aH ⟨rfl,?_⟩;refine bR _ _ ?_;clear bR;refine kW H rfl rfl ?_;refine kP H (Kc bK (SC (Rm rfl (Rd rfl (Ra rfl ?_)))));clear H bK;intro a H;refine aH ?_;refine dw ((k+1,_)) (by exact (H).sub ⟨rfl,rfl,rfl,rfl,aB⟩) ?_ ?_
      ·(try dsimp only);exact ⟨by omega,fun b o h=>F5 b o (hgm b o h)⟩
      first|omega|(dsimp only;omega)
    intro h27 a H
    try have p27:=dF h27
    first
    | (exfalso;omega)
    | (exact absurd h27 (by decide))
    |skip
     replace hga:=fun j v hj=>aK hgm (hga j v hj);replace hfl:=hfl.mono hgm;replace nS:=nS.mono hgm;replace ku:=ku.mono hgm;have Ue:∀ a∈A,0≤a.at_∧a.at_≤4294967296:=fun a ha=>⟨(Ba a ha).1,by have:=(Ba a ha).2;omega⟩;refine dW ?_;refine K8 _ _ ?_;clear K8;refine cO (fun _ bP=>?_);refine bD ru (cs:=D.cells) H wn rfl rfl (fun j v hj=>H.hp.aJ (hga j v hj)) rfl ?_;clear H;intro a H;refine s_call Mi H wn rfl (LA _ _ H.ro D l hfl hok.ok (by omega)) rfl ?_;clear H;rintro v40 KN a w Jw Bg H;rw [← hA] at Jw;replace hga:=fun j v hj=>aK Bg (hga j v hj);replace hfl:=hfl.mono Bg;replace ku:=ku.mono Bg;refine kH H (Rm rfl ?_);clear H;intro a H;refine s_call Sv H wn rfl (VI _ _ H.ro A _ 1 ku (by omega) hnd Ue (by decide)) rfl ?_;clear H;rintro v42 Ih a w aff Gj H;replace hga:=fun j v hj=>aK Gj (hga j v hj);replace hfl:=hfl.mono Gj;replace ku:=ku.mono Gj;replace Jw:=Jw.mono Gj;refine s_call Sm H wn rfl (WQ _ _ H.ro (qx A 1) _ _ Jw aff (by have:=WY A 1;omega)) rfl ?_;clear H;rintro v43 E9 a w rfl vG H;replace hga:=fun j v hj=>aK vG (hga j v hj);replace hfl:=hfl.mono vG;replace ku:=ku.mono vG;refine kH H (Rm rfl (Sp 44 rfl ?_ ?_)) <;> clear H
     ·intro pE a H
      try have p44:=dT pE
      first
      | (exfalso;omega)
      | (exact absurd pE (by decide))
      |skip
       refine bD ru (cs:=D.cells) H (wg H rfl rfl pE) rfl rfl (fun j v hj=>H.hp.aJ (hga j v hj)) rfl ?_;clear H;intro a H;refine s_call abM H (wg H rfl rfl pE) rfl (aar _ _ H.ro D l hfl hok.ok (by omega)) rfl ?_;clear H;rintro v46 Qm a w Jy Gm H;rw [← hA] at Jy;replace hga:=fun j v hj=>aK Gm (hga j v hj);replace hfl:=hfl.mono Gm;replace ku:=ku.mono Gm;refine kH H (YM pE rfl ?_);clear H;intro a H;refine s_call Sv H (wg H rfl rfl pE) rfl (VI _ _ H.ro A _ 3 ku (by omega) hnd Ue (by decide)) rfl ?_;clear H;rintro v48 G48 a w afg Jp H;replace hga:=fun j v hj=>aK Jp (hga j v hj);replace hfl:=hfl.mono Jp;replace ku:=ku.mono Jp;replace Jy:=Jy.mono Jp;refine s_call Sm H (wg H rfl rfl pE) rfl (WQ _ _ H.ro (qx A 3) _ _ Jy afg (by have:=WY A 3;omega)) rfl ?_;clear H;rintro v49 G49 a w rfl NM H;replace hga:=fun j v hj=>aK NM (hga j v hj);replace hfl:=hfl.mono NM;replace ku:=ku.mono NM;exact kH H (Pt pE rfl (ak bP rfl (LR results3 rfl fun H=>H.rt rfl)))
     intro pE a H
     try have p44:=dF pE
     first
     | (exfalso;omega)
     | (exact absurd pE (by decide))
     |skip
      exact kH H (aX pE rfl (aP pE rfl (Pf pE rfl (ak bP rfl (LR results3 rfl fun H=>H.rt rfl)))))
end
section
open Go.ChangeShapes Go.RowKit Go.Deep
abbrev nQ (W:World):GH:=fun k=>W.heap[k]?
theorem adL {W:World} {b o:Nat} {v:aj} (h:W.cell? ⟨b,o,none⟩=some v):aJ (nQ W) b o=some v:=by
 unfold World.cell? at h
 unfold aJ nQ
 split at h
 ·rename_i c e f hh
  simp only at hh
  rw [hh];simpa using h
 cases h
theorem Vp {α:Type} {p:Nat→α→Prop}:∀ n:Nat,(∀ i,i < n→∃ x,p i x)→∃ l:List α,l.length=n∧∀ i x,l[i]?=some x→p i x
 | 0,_=>⟨[],rfl,fun i x h=>by simp at h⟩
 | n+1,h=>by
  obtain ⟨l,hl,hp⟩:=Vp n (fun i hi=>h i (by omega));obtain ⟨x,hx⟩:=h n (by omega);refine ⟨l++[x],by simp [hl],fun i y hy=>?_⟩
  by_cases hi:i < l.length
  ·exact hp i y (by rwa [uV hi] at hy)
  rw [vV (by omega)] at hy
  have hin:i - l.length=0:=by
   have:=(iX.1 hy).1
   simp at this;omega
  rw [hin] at hy
  simp only [Az,mV] at hy
  subst hy;rw [show i=n by omega];exact hx
theorem Zr {H:Type} (d:DataW H):1≤Rows.uptoBulk d:=by
 cases d <;> (try simp only [Rows.uptoBulk]) <;> (try omega)
 rename_i x;cases x <;> simp only [Rows.uptoBulk] <;> omega
theorem RA {H ρ:Type} {dat:ρ→List Dat}:∀ (rs:List ρ) (D:Nat→DataW H),(∀ i r,rs[i]?=some r→cB (dat r)+1≤8*Rows.uptoBulk (D i))→eD (rs.map dat)≤8*Rows.uptoBulkAll ((List.range rs.length).map D)
 | [],D,_=>iK _
 | r :: rs,D,h=>by
  have h0:=h 0 r rfl;have hp:=Zr (D 0);have ih:=RA rs (fun i=>D (i+1)) (fun i r hr=>h (i+1) r (by simpa using hr));rw [nA,List.range_succ_eq_map]
  simp only [eY,List.map_map,eD,Rows.uptoBulkAll]
  have e:(List.map (D ∘ Nat.succ) (List.range rs.length))=(List.map (fun i=>D (i+1)) (List.range rs.length)):=rfl;rw [e];omega
theorem Rz {H:Type} {D:Nat→DataW H}:∀ {n i:Nat},i < n→Rows.uptoBulk (D i)≤Rows.uptoBulkAll ((List.range n).map D)
 | 0,i,h=>absurd h (by omega)
 | n+1,i,h=>by
  have key:∀ (l m:List (DataW H)),Rows.uptoBulkAll (l++m)=Rows.uptoBulkAll l+Rows.uptoBulkAll m:=by
   intro l m
   induction l with
   | nil=>simp [Rows.uptoBulkAll]
   | cons x l ih=>simp only [nC,Rows.uptoBulkAll,ih];omega
  rw [List.range_succ,nD,key]
  by_cases hi:i < n
  ·have:=Rz (D:=D) hi;omega
  have:i=n:=by omega
  subst this
  simp only [eY,oZ,Rows.uptoBulkAll];omega
section
variable {H:Type} {enc:TypeId × aj→H} {P:Program} {W:World} {base:Nat} {spare:Nat→Bool} {held:Bool}
theorem rZ {ρ:Type} {dat:ρ→List Dat} {t e:TypeId} {sz:Nat} (hsz:0 < sz) {fuel:Nat} {cs:List aj} {x:DataW H × List MemPlace} (ht:P.underlying t=some (.slice e)) (hc:P.cellsOf e=sz) (h:DataW.trod enc P W base spare held fuel t cs=some x)
  (row:∀ n cs' D Pl,DataW.trod enc P W base spare held n e cs'=some (D,Pl)→Rows.uptoBulk D < Rows.uptoBulk x.1→∃ r:ρ,aY (nQ W) (dat r) cs'∧cB (dat r)+1≤8*Rows.uptoBulk D) :
  ∃ (rs:List ρ) (v:aj),cs=[v]∧av (nQ W) (.sl sz (rs.map dat)) v∧eD (rs.map dat)+8≤8*Rows.uptoBulk x.1:=by
 rcases open_slice ht h with ⟨rfl,rfl⟩|⟨a,len,cap,m,n,D,Pl,rfl,hb,hl,hm,hmm,rfl,hx⟩
 ·exact ⟨[],_,rfl,av.jf rfl (by decide),by simp [eD,Rows.uptoBulk]⟩
 obtain ⟨rs,hrl,hrs⟩:=Vp (p:=fun i (r:ρ)=>∃ cs',W.cells? base (a.add (i*sz)) sz=some cs'∧aY (nQ W) (dat r) cs'∧cB (dat r)+1≤8*Rows.uptoBulk (D i)) len (fun i hi=>by
  have him:i < m:=by rw [hmm];split <;> omega
  obtain ⟨cs',h1,h2⟩:=hx i him;rw [hc] at h1;have hb1:=Rz (D:=D) hi;obtain ⟨r,hr1,hr2⟩:=row n cs' (D i) (Pl i) h2 (by simp only [Rows.uptoBulk];omega)
  exact ⟨r,cs',h1,hr1,hr2⟩)
 refine ⟨rs,_,rfl,?_,?_⟩
 ·simp only [av,bT]
  refine ⟨some a,cap,by rw [hrl],by omega,hm,fun hne=>?_⟩;obtain ⟨b,off,spot⟩:=a
  have hlen:0 < rs.length:=by cases rs with|nil=>simp at hne|cons _ _=>simp
  obtain ⟨cs0,h1,-,-⟩:=hrs 0 rs[0] (gP hlen);obtain ⟨-,hl0,hg0⟩:=World.cells?_some h1
  have hspot:spot=none:=by
   have h3:=hg0 0 hsz;rw [gP (by omega)] at h3
   simpa [Addr.add] using World.cell?_spot h3
  subst hspot;refine ⟨b,off,rfl,kG.mk fun k r hk=>?_⟩;rw [pY] at hk;obtain ⟨y,hy,rfl⟩:=lD.1 hk;obtain ⟨cs',h2,h3,-⟩:=hrs k y hy;obtain ⟨-,hl1,hg1⟩:=World.cells?_some h2;refine ⟨cs',hl1,fun j u hj=>adL ?_,h3⟩
  have hj2:j < sz:=by rw [← hl1];exact (iX.1 hj).1
  have:=hg1 j hj2;rw [add_add,Go.WideShapes.add_plain] at this;rw [show off+k*sz+j=off+(k*sz+j) by omega,this];exact hj
 have:=RA rs D (fun i r hr=>(hrs i r hr).choose_spec.2.2);rw [hrl] at this
 simp only [Rows.uptoBulk];omega
end
structure pX (P:Program) (t:TypeId) (sz:Nat) (fs:List (TypeId × Nat × Nat)):Prop where
 und:P.underlying t=some (.struct (P.fieldsOf t))
 cells:P.cellsOf t=sz
 sU:(P.fieldsOf t).toList.map (fun f=>(f.type,f.offset,P.cellsOf f.type))=fs
theorem qQ {P:Program} {H:Type} {enc:TypeId × aj→H} {W:World} {base:Nat} {spare:Nat→Bool} {held:Bool} {t:TypeId} {sz fuel:Nat} {fs:List (TypeId × Nat × Nat)} {cs:List aj} {x:DataW H × List MemPlace} (hs:pX P t sz fs) (h:DataW.trod enc P W base spare held fuel t cs=some x) :
  ∃ (xs:List (DataW H × List MemPlace)) (n:Nat),x.1=.agg (xs.map (·.1))∧cs.length=sz∧xs.length=fs.length∧∀ (i:Nat) (ti:TypeId) (off k:Nat),fs[i]?=some (ti,off,k)→DataW.trod enc P W base spare held n ti ((cs.drop off).take k)=xs[i]?:=by
 obtain ⟨xs,n,-,rfl,hl,hxl,hf⟩:=DataW.trod_struct hs.und h;refine ⟨xs,n,rfl,by rw [hl,hs.cells],by rw [hxl,← hs.sU];simp,fun i ti off k hi=>?_⟩;rw [← hs.sU,pY] at hi;obtain ⟨f,hf1,hf2⟩:=lD.1 hi
 simp only [gB] at hf2
 obtain ⟨rfl,rfl,rfl⟩:=hf2;exact hf i f (by simpa using hf1)
section
variable {H:Type} {enc:TypeId × aj→H} {W:World} {base:Nat} {spare:Nat→Bool} {held:Bool}
theorem aib:pX prog 187 2 [(3,0,1),(3,1,1)]:=⟨by kernel_rfl,by kernel_rfl,by kernel_rfl⟩
theorem Wj {n:Nat} {cs:List aj} {D:DataW H} {Pl:List MemPlace} (h:DataW.trod enc prog W base spare held n 187 cs=some (D,Pl)):∃ r:iq,aY (nQ W) r.dat cs∧cB r.dat+1≤8*Rows.uptoBulk D:=by
 obtain ⟨xs,m,hx,hl,hxl,hf⟩:=qQ aib h
 match cs,hl,xs,hxl with
 | [c0,c1],_,[y0,y1],_ =>
  have h0:=hf 0 _ _ _ rfl;have h1:=hf 1 _ _ _ rfl;obtain ⟨k0,e0,d0,-⟩:=DataW.trod_int underlying3 h0;obtain ⟨k1,e1,d1,-⟩:=DataW.trod_int underlying3 h1
  simp at e0 e1
  subst e0 e1
  simp only at hx
  refine ⟨⟨k0,k1⟩,?_,?_⟩
  ·simp [aY,iq.dat,av,Value.oneCell']
  rw [hx];simp [d0,d1,iq.dat,cB,nX,Rows.uptoBulk,Rows.uptoBulkAll]
theorem ahU:pX prog 190 2 [(3,0,1),(3,1,1)]:=⟨by kernel_rfl,by kernel_rfl,by kernel_rfl⟩
theorem ahd {n:Nat} {cs:List aj} {D:DataW H} {Pl:List MemPlace} (h:DataW.trod enc prog W base spare held n 190 cs=some (D,Pl)):∃ r:jg,aY (nQ W) r.dat cs∧cB r.dat+1≤8*Rows.uptoBulk D:=by
 obtain ⟨xs,m,hx,hl,hxl,hf⟩:=qQ ahU h
 match cs,hl,xs,hxl with
 | [c0,c1],_,[y0,y1],_ =>
  have h0:=hf 0 _ _ _ rfl;have h1:=hf 1 _ _ _ rfl;obtain ⟨k0,e0,d0,-⟩:=DataW.trod_int underlying3 h0;obtain ⟨k1,e1,d1,-⟩:=DataW.trod_int underlying3 h1
  simp at e0 e1
  subst e0 e1
  simp only at hx
  refine ⟨⟨k0,k1⟩,?_,?_⟩
  ·simp [aY,jg.dat,av,Value.oneCell']
  rw [hx];simp [d0,d1,jg.dat,cB,nX,Rows.uptoBulk,Rows.uptoBulkAll]
theorem ahX:pX prog 199 4 [(3,0,1),(3,1,1),(3,2,1),(4,3,1)]:=⟨by kernel_rfl,by kernel_rfl,by kernel_rfl⟩
theorem ahg {n:Nat} {cs:List aj} {D:DataW H} {Pl:List MemPlace} (h:DataW.trod enc prog W base spare held n 199 cs=some (D,Pl)):∃ r:iO,aY (nQ W) r.dat cs∧cB r.dat+1≤8*Rows.uptoBulk D:=by
 obtain ⟨xs,m,hx,hl,hxl,hf⟩:=qQ ahX h
 match cs,hl,xs,hxl with
 | [c0,c1,c2,c3],_,[y0,y1,y2,y3],_ =>
  have h0:=hf 0 _ _ _ rfl;have h1:=hf 1 _ _ _ rfl;have h2:=hf 2 _ _ _ rfl;have h3:=hf 3 _ _ _ rfl;obtain ⟨k0,e0,d0,-⟩:=DataW.trod_int underlying3 h0;obtain ⟨k1,e1,d1,-⟩:=DataW.trod_int underlying3 h1;obtain ⟨k2,e2,d2,-⟩:=DataW.trod_int underlying3 h2;obtain ⟨k3,e3,d3⟩:=DataW.trod_bool underlying4 h3
  simp at e0 e1 e2 e3
  subst e0 e1 e2 e3
  simp only at hx
  refine ⟨⟨k0,k1,k2,k3⟩,?_,?_⟩
  ·simp [aY,iO.dat,av,Value.oneCell']
  rw [hx];simp [d0,d1,d2,d3,iO.dat,cB,nX,Rows.uptoBulk,Rows.uptoBulkAll]
theorem aia:pX prog 27 4 [(3,0,1),(3,1,1),(24,2,1),(25,3,1)]:=⟨by kernel_rfl,by kernel_rfl,by kernel_rfl⟩
theorem ahV:pX prog 29 5 [(23,0,1),(27,1,4)]:=⟨by kernel_rfl,by kernel_rfl,by kernel_rfl⟩
theorem RN:prog.cellsOf 187=2:=by kernel_rfl
theorem ZI:prog.cellsOf 190=2:=by kernel_rfl
theorem ZJ:prog.cellsOf 199=4:=by kernel_rfl
theorem JX {n:Nat} {cs:List aj} {x:DataW H × List MemPlace} (h:DataW.trod enc prog W base spare held n 29 cs=some x):∃ (r:ig) (p d l:aj),cs=[p,vi r.marks.ins,vi r.marks.move,d,l]∧jl (nQ W) r p d l∧oO r+15≤8*Rows.uptoBulk x.1:=by
 obtain ⟨xs,m,hx,hl,hxl,hf⟩:=qQ ahV h
 match cs,hl,xs,hxl with
 | [c0,c1,c2,c3,c4],_,[y0,y1],_ =>
  have h0:=hf 0 _ _ _ rfl;have h1:=hf 1 _ _ _ rfl;obtain ⟨ps,pv,e0,rp,sp⟩:=rZ (dat:=iq.dat) (sz:=2) (by omega) underlying23 RN h0 (fun n cs' D Pl hh _=>Wj hh);obtain ⟨zs,m2,hz,hzl,hzx,C8⟩:=qQ aia h1
  match zs,hzx with
  | [z0,z1,z2,z3],_ =>
   have g0:=C8 0 _ _ _ rfl;have g1:=C8 1 _ _ _ rfl;have g2:=C8 2 _ _ _ rfl;have g3:=C8 3 _ _ _ rfl;obtain ⟨k0,e1,d0,-⟩:=DataW.trod_int underlying3 g0;obtain ⟨k1,e2,d1,-⟩:=DataW.trod_int underlying3 g1;obtain ⟨ds,dv,e3,rd,sd⟩:=rZ (dat:=jg.dat) (sz:=2) (by omega) underlying24 ZI g2 (fun n cs' D Pl hh _=>ahd hh);obtain ⟨ls,lv,e4,rl,sl⟩:=rZ (dat:=iO.dat) (sz:=4) (by omega) underlying25 ZJ g3 (fun n cs' D Pl hh _=>ahg hh)
   simp at e0 e1 e2 e3 e4
   subst e0 e1 e2 e3 e4;refine ⟨⟨ps,⟨k0,k1,ds,ls⟩⟩,_,_,_,rfl,⟨rp,rd,rl⟩,?_⟩;have hzh:=HV ⟨ps,⟨k0,k1,ds,ls⟩⟩
   simp only at hzh
   rw [hx]
   simp only [eY,oZ,Rows.uptoBulk,Rows.uptoBulkAll,hz,d0,d1]
   omega
theorem ahW:pX prog 63 11 [(3,0,1),(3,1,1),(3,2,1),(9,3,1),(29,4,5),(22,9,1),(61,10,1)]:=⟨by kernel_rfl,by kernel_rfl,by kernel_rfl⟩
theorem aic:pX prog 96 6 [(29,0,5),(94,5,1)]:=⟨by kernel_rfl,by kernel_rfl,by kernel_rfl⟩
theorem ahS:pX prog 98 7 [(3,0,1),(29,1,5),(22,6,1)]:=⟨by kernel_rfl,by kernel_rfl,by kernel_rfl⟩
theorem LG:prog.cellsOf 63=11:=by kernel_rfl
theorem ZM:prog.cellsOf 96=6:=by kernel_rfl
theorem ZG:prog.cellsOf 98=7:=by kernel_rfl
theorem Wi:∀ (N:Nat) (n:Nat) (cs:List aj) (D:DataW H) (Pl:List MemPlace),DataW.trod enc prog W base spare held n 63 cs=some (D,Pl)→Rows.uptoBulk D < N→∃ r:ay,aY (nQ W) r.dat cs∧cB r.dat+1≤8*Rows.uptoBulk D
 | 0,_,_,_,_,_,hN=>absurd hN (by omega)
 | N+1,n,cs,D,Pl,h,hN=>by
  have ih:=Wi N;obtain ⟨xs,m,hx,hl,hxl,hf⟩:=qQ ahW h
  match cs,hl,xs,hxl with
  | [c0,c1,c2,c3,c4,c5,c6,c7,c8,c9,c10],_,[y0,y1,y2,y3,y4,y5,y6],_ =>
   have h0:=hf 0 _ _ _ rfl;have h1:=hf 1 _ _ _ rfl;have h2:=hf 2 _ _ _ rfl;have h3:=hf 3 _ _ _ rfl;have h4:=hf 4 _ _ _ rfl;have h5:=hf 5 _ _ _ rfl;have h6:=hf 6 _ _ _ rfl
   simp only at hx
   have hD:Rows.uptoBulk D=Rows.uptoBulk y0.1+(Rows.uptoBulk y1.1+(Rows.uptoBulk y2.1+(Rows.uptoBulk y3.1+(Rows.uptoBulk y4.1+(Rows.uptoBulk y5.1+(Rows.uptoBulk y6.1+0))))))+1:=by
    rw [hx];simp only [eY,oZ,Rows.uptoBulk,Rows.uptoBulkAll]
   obtain ⟨k0,e0,d0,-⟩:=DataW.trod_int underlying3 h0;obtain ⟨k1,e1,d1,-⟩:=DataW.trod_int underlying3 h1;obtain ⟨k2,e2,d2,-⟩:=DataW.trod_int underlying3 h2;obtain ⟨s,e3,d3,-⟩:=DataW.trod_string underlying9 h3;obtain ⟨hd,p,d,l,e4,rh,sh⟩:=JX h4;obtain ⟨fl,fv,e5,rf,sf⟩:=rZ (dat:=ay.dat) (sz:=11) (by omega) underlying22 LG h5 (fun n cs' D' cK hh hlt=>ih n cs' D' cK hh (by omega))
   obtain ⟨rs,rv,e6,rr,sr⟩:=rZ (dat:=bO.dat) (sz:=6) (by omega) underlying61 ZM h6 (fun n cs' D' cK hh hlt=>by
    obtain ⟨xs,m,hx,hl,hxl,hf⟩:=qQ aic hh
    match cs',hl,xs,hxl with
    | [a0,a1,a2,a3,a4,a5],_,[w0,w1],_ =>
     have g0:=hf 0 _ _ _ rfl;have g1:=hf 1 _ _ _ rfl
     simp only at hx
     have hD':Rows.uptoBulk D'=Rows.uptoBulk w0.1+(Rows.uptoBulk w1.1+0)+1:=by
      rw [hx];simp only [eY,oZ,Rows.uptoBulk,Rows.uptoBulkAll]
     obtain ⟨hd2,p2,d2',l2,q0,rh2,sh2⟩:=JX g0
     obtain ⟨cl,cv,q1,rc,sc⟩:=rZ (dat:=bN.dat) (sz:=7) (by omega) underlying94 ZG g1 (fun n cs'' Yd ajq hh2 hlt2=>by
      obtain ⟨xs,m,hx2,hl2,afA,hf2⟩:=qQ ahS hh2
      match cs'',hl2,xs,afA with
      | [b0,b1,b2,b3,b4,b5,b6],_,[v0,v1,v2],_ =>
       have u0:=hf2 0 _ _ _ rfl;have u1:=hf2 1 _ _ _ rfl;have u2:=hf2 2 _ _ _ rfl
       simp only at hx2
       have ajv:Rows.uptoBulk Yd=Rows.uptoBulk v0.1+(Rows.uptoBulk v1.1+(Rows.uptoBulk v2.1+0))+1:=by
        rw [hx2];simp only [eY,oZ,Rows.uptoBulk,Rows.uptoBulkAll]
       obtain ⟨j0,t0,z0,-⟩:=DataW.trod_int underlying3 u0;obtain ⟨hd3,p3,d3',l3,t1,rh3,sh3⟩:=JX u1;obtain ⟨MK,fv3,t2,rf3,sf3⟩:=rZ (dat:=ay.dat) (sz:=11) (by omega) underlying22 LG u2 (fun n cs3 D3 YU hh3 hlt3=>ih n cs3 D3 YU hh3 (by omega))
       simp at t0 t1 t2
       obtain ⟨rfl,rfl,rfl,rfl,rfl⟩:=t1;subst t0 t2;have hz:=Aq (bN.mk j0 hd3 MK)
       simp only [bN.head,bN.flow] at hz
       have bz:Rows.uptoBulk v0.1=1:=by rw [z0];rfl
       exact ⟨bN.mk j0 hd3 MK,aY.VF (x:=bN.mk j0 hd3 MK) rh3 rf3,by simp only [bg] at hz;omega⟩)
     simp at q0 q1
     obtain ⟨rfl,rfl,rfl,rfl,rfl⟩:=q0;subst q1;have hz:=Ar (bO.mk hd2 cl)
     simp only [bO.head,bO.cells] at hz
     exact ⟨bO.mk hd2 cl,aY.VG (x:=bO.mk hd2 cl) rh2 rc,by simp only [iZ] at hz;omega⟩)
   simp at e0 e1 e2 e3 e4 e5 e6
   obtain ⟨rfl,rfl,rfl,rfl,rfl⟩:=e4;subst e0 e1 e2 e3 e5 e6;have hz:=nZ (ay.mk k0 k1 k2 s hd fl rs)
   simp only [ay.text,ay.head,ay.flow,ay.rows] at hz
   have b0:Rows.uptoBulk y0.1=1:=by rw [d0];rfl
   have b1:Rows.uptoBulk y1.1=1:=by rw [d1];rfl
   have b2:Rows.uptoBulk y2.1=1:=by rw [d2];rfl
   have b3:Rows.uptoBulk y3.1=s.size+1:=by rw [d3];show s.data.toList.length+1=s.data.size+1;rw [tX]
   exact ⟨ay.mk k0 k1 k2 s hd fl rs,aY.mkItem (x:=ay.mk k0 k1 k2 s hd fl rs) rh rf rr,by simp only [bg,gT] at hz;omega⟩
theorem ahf {n:Nat} {cs:List aj} {x:DataW H × List MemPlace} (h:DataW.trod enc prog W base spare held n 22 cs=some x):∃ (l:List ay) (v:aj),cs=[v]∧av (nQ W) (.sl 11 (l.map ay.dat)) v∧bg l+8≤8*Rows.uptoBulk x.1 :=
 rZ (dat:=ay.dat) (sz:=11) (by omega) underlying22 LG h (fun n cs' D' cK hh _=>Wi _ n cs' D' cK hh (Nat.lt_succ_self _))
end
end
end Go.Proofs.YteopmoocmoigcaaGreat
