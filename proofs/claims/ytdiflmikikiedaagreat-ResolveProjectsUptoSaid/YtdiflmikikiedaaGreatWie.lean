/-
  What the claim stands on, part 5: Mg24 Gco De24 Dnn Rw24 Ni13 Mn Lay Srt Ms Ids Usd Rf0 Dlr Ccl Cst Dcl Nm.
-/
import Derived.Test.YtdiflmikikiedaaGreatWid
import Derived.Shelf.SlIterI.Nil
import Derived.Shelf.SortM.Plain
import Derived.Shelf.SortM.SortNone
namespace Go.Proofs.YtdiflmikikiedaaGreat
set_option linter.all false
open Go.Proofs.Tryz
open Go.RowKit
theorem acg:aQ 212:=aR func212 rfl
def gP (q:Int × List bZ):AP:=fun args g=>∃ v,args=[vi q.1,v]∧ak g (.sl 4 (q.2.map bZ.dat)) v
theorem adf {A:List (Int × List bZ)} {k:Nat} {args:List ah} {g:GH} (h:zq (A.map gP) k args g):∃ (hk:k < A.length) (B:Option Addr) (c:Nat),args=[vi A[k].1,.slice B A[k].2.length c]∧ak g (.sl 4 (A[k].2.map bZ.dat)) (.slice B A[k].2.length c):=by
 obtain ⟨p,hp,hargs⟩:=h;rw [tT] at hp;obtain ⟨q,hq,rfl⟩:=qU.1 hp;obtain ⟨hk,rfl⟩:=jZ.1 hq;obtain ⟨v,h1,h2⟩:=hargs;obtain ⟨B,n,c,rfl⟩:=h2.form;have hn:=h2.len;rw [bQ] at hn;subst hn;exact ⟨hk,B,c,h1,h2⟩
theorem ak.hd {G:GH} {sz:Nat} {rows:List (List Dat)} {A:Option Addr} {n c:Nat} (h:ak G (.sl sz rows) (.slice A n c)) (m:Nat) (hm:m<=rows.length):ak G (.sl sz (rows.take m)) (.slice A m c):=by
 have h2:=h.part 0 m (lu _) hm;obtain ⟨A',c',he,hc1,-,-⟩:=h.slice;rw [wH,Nat.sub_zero,Nat.sub_zero] at h2
 by_cases hc:c=0
 ·rw [aD hc] at h2;exact h2
 rw [av hc] at h2
 cases A with
 | none=>exact h2
 | some p=>simpa [Addr.add] using h2
theorem Sy {α:Type} {p:α->Bool}:∀ (r:List α) (i:Nat) (hi:i < r.length),i<=(r.takeWhile p).length->(p r[i]=true↔i < (r.takeWhile p).length)
 | [],_,hi,_=>absurd hi (by simp)
 | x :: r,i,hi,h=>by
  rw [List.takeWhile_cons] at h |-
  cases hx:p x
  ·rw [hx] at h
   simp only [uK,if_false,List.length_nil,Nat.le_zero] at h
   subst h
   simp [hx]
  rw [hx] at h
  simp only [if_true,lg] at h |-
  cases i with
  | zero=>simp [hx]
  | succ i=>simpa using Sy r i (by simpa using hi) (by omega)
theorem ahk {α:Type} {p:α->Bool} (r:List α):r.drop (r.takeWhile p).length=r.dropWhile p:=by
 conv=>lhs;rw [<- List.takeWhile_append_dropWhile (p:=p) (l:=r)]
 rw [List.drop_append_of_le_length (by simp [List.takeWhile_append_dropWhile])]
 simp [List.takeWhile_append_dropWhile]
theorem ahl {α:Type} {p:α->Bool} (r:List α):r.take (r.takeWhile p).length=r.takeWhile p:=by
 have:=List.take_left (l₁:=r.takeWhile p) (l₂:=r.dropWhile p)
 rwa [List.takeWhile_append_dropWhile] at this
theorem Uf {p:Prop} (h:p:=by
 first
  | exact H.hp.ng (L':=OY) (by repeat (first|exact lX _|apply List.Sublist.cons)) (.inr (hb2 (by simpa using fT)))
  | exact H.hp.gT (.inl (by
    have:=kT.len;rw [show rest=[] from List.eq_nil_of_length_eq_zero (by omega)] at this
    cases f <;> (simp only [rC,List.length_nil,Aj] at this;first|(rw [bQ,<- this];exact kT.now)|(rw [<- this];exact kT.now))))):p:=h
theorem aaF {p:Prop} (h:p:=by
 exact h1.mono fun b o h=>QB b o (oz b o (wP b o (hg3 b o h)))):p:=h
set_option maxHeartbeats 2000000 in
theorem aoU {G:GH} {bd:Nat} {l:List bZ} {v:ah} (hb:aI G bd 4=some v) (hv:ak G (.sl 4 (l.map bZ.dat)) v) (hz:l.length<=4294967290) :
  Iter prog G (.func (.func 212) #[] #[(aK bd 0)]) ((rC l.length l).map gP):=by
 intro J Jx fv G1 L w0 hfv hGi zM hJx hJ hO hcb;refine jv (caps:=[(aK bd 0)]) acg ?_;obtain ⟨A,c,rfl,hc1,hc2,hg⟩:=hv.slice;rw [bQ] at *;replace hb:=aF hGi hb;refine jD (N:=42) (T:=[(0,_),(1,_)]) func212 rfl ntmps212 rfl rfl hO ?_;intro a H;refine kP H (SR fun _ K1=>Rf qp rfl (Rf Av rfl (Rg Bu rfl hb (aj K1 rfl (SB ?_)))));clear H K1;intro a H;skip;refine fF (ι:=Nat × List bZ × Option Addr × Nat × Nat × OL × GH) (Tc:=[(0,_)]) (Lc:=[]) (fun gh=>[(3,.slice gh.2.2.1 gh.2.1.length gh.2.2.2.1)]) (fun gh=>[]++gh.2.2.2.2.2.1) (fun gh=>gh.2.2.2.2.2.2) (fun gh=>gh.2.1.length<=gh.1∧gh.2.1.length<=4294967290∧(∀ b o,G1 b=some o->gh.2.2.2.2.2.2 b=some o)∧ak gh.2.2.2.2.2.2 (.sl 4 (gh.2.1.map bZ.dat)) (.slice gh.2.2.1 gh.2.1.length gh.2.2.2.1)∧Now ((rC l.length l).map gP) gP J (rC l.length l).length gh.2.2.2.2.1 (rC gh.1 gh.2.1) gh.2.2.2.2.2.2 gh.2.2.2.2.2.1) (fun gh=>gh.2.1.length) ((l.length,l,A,c,0,L,G1)) (by exact H.sub ⟨rfl,rfl,ay⟩) ?_ ?_
 ·exact ⟨eP _,hz,fun _ _ h=>h,hv.mono hGi,⟨hJ,fun i a h=>by rw [iA,tT];rw [h];rfl,by simp⟩⟩
 clear H;rintro ⟨f,rest,B,d,j1,Lt,g⟩ a w hI H;dsimp only at hI H;obtain ⟨hf,hzr,hgm,qz,kT⟩:=hI;dsimp only [lca,bM] at H;refine kP H (SQ fun _ K2=>SR fun _ K3=>Rm rfl (Rl kW rfl (Rc rfl (Kz K3 (Cd rfl ?_ ?_))))) <;> clear H K3
 ·intro h10 a H
  try have jd:=dT h10
  obtain ⟨y,r,rfl⟩:∃ y r,rest=y :: r:=by cases rest with|nil=>simp at jd|cons y r=>exact ⟨y,r,rfl⟩
  obtain ⟨f,rfl⟩:∃ f',f=f'+1:=⟨f - 1,by rw [lg] at hf;omega⟩;rw [rC] at kT;obtain ⟨b,o,rfl,hr0⟩:=Fv qz (k:=0) (by simp);obtain ⟨p,hp⟩:∃ p:bZ->Bool,p=fun z=>decide (z.key=y.key):=⟨_,rfl⟩;rw [<- hp] at kT;refine kP H (Kc K2 (SB (SR fun _ K4=>aj K4 rfl (SQ fun _ K5=>SB ?_))));clear H K2 K4;intro a H;skip;refine fF (ι:=Nat × GH) (Tc:=[(0,_),(3,_)]) (Lc:=[]) (fun gh=>[(4,vi gh.1)]) (fun gh=>[]++Lt) (fun gh=>gh.2) (fun gh=>1<=gh.1∧gh.1<=1+(r.takeWhile p).length∧(∀ b o,g b=some o->gh.2 b=some o)) (fun gh=>(y :: r).length - gh.1) ((1,g)) (by exact H.sub ⟨rfl,rfl,rfl,ay⟩) ?_ ?_
  ·exact ⟨eP _,by omega,fun _ _ h=>h⟩
  clear H;rintro ⟨m,g3⟩ a w hI H;dsimp only at hI H;obtain ⟨hm1,hm2,hg3⟩:=hI;dsimp only [lca,bM] at H;refine bR (fun _ K6=>?_);refine bR (fun _ K7=>?_)
  obtain ⟨km,hkm⟩:∃ km:Int,∀ (h:m < (y :: r).length),(y :: r)[m].key=km:=by
   by_cases h:m < (y :: r).length
   ·exact ⟨((y :: r)[m]'h).key,fun _=>rfl⟩
   exact ⟨0,fun h2=>absurd h2 h⟩
  have hkc:m < (y :: r).length->aI g b (o+m*4+1)=some (vi km):=fun h=>by
   obtain ⟨b',o',he,hrm⟩:=Fv qz (k:=m) h
   injection he with he
   injection he with e1 e2
   subst e1 e2;rw [<- hkm h];exact hrm 1 _ rfl
  have hlen:(y :: r).length=r.length+1:=rfl
  have hdc:(y :: r).length<=d:=by
   obtain ⟨_,_,he,h1,-,-⟩:=qz.slice
   injection he with _ _ e3
   rw [bQ] at h1
   omega
  have htl:(r.takeWhile p).length<=r.length:=(List.takeWhile_sublist (l:=r) p).length_le
  by_cases c0:(m:Int) < ((y :: r).length:Int)
  ·skip;refine dI hmx [[],[],[1],[0,1,2],ra 0 4,ra 0 5,ra 0 5,ra 0 7,ra 0 8,ra 0 9,ra 0 5,[0,1,2,3,4,10],[0,1,2,3,4,10,11],[0,1,2,3,4,10,11,12],ra 0 14,ra 0 15] [] (by kernel_rfl) [_,_,_,_,_,_,_,(aK b (o+m*4)),_,_,_,(aK b (o+0*4)),_,_,_,_] H (aC (Z0 rfl (Rm rfl)) (Z0 rfl (Rm rfl)) (Z1 1 12 rfl (Rl kW rfl)) (Z2 0 11 2 13 rfl (Rc rfl)) (aC (Z1 3 14 rfl (Rm rfl)) (Z1 4 15 rfl (YM (aH c0) rfl)) (Z1 4 15 rfl (YM (aH c0) rfl)) ?_ (aC (Z2 7 18 4 15 rfl (YF yK (aH c0) rfl)) (X2 8 19 4 15 rfl fun hG=>YR aG (aH c0) rfl (aF hG (aF hg3 (hkc (by omega))))) (Z1 4 15 rfl (YM (aH c0) rfl)) ?_ (aC (Z2 11 22 4 15 rfl (YF yK (aH c0) rfl)) (X2 12 23 4 15 rfl fun hG=>YR aG (aH c0) rfl (aF hG (aF hg3 (hr0 1 _ rfl)))) (Z3 9 20 13 24 4 15 rfl (YC (aH c0) rfl)) (Z2 4 15 14 25 rfl (Pt (aH c0) rfl)) dH)))) ?_
   ·refine zy 5 16 6 17 4 15 rfl rfl fun _ a w G1 hG HT H fin=>?_;refine zi kW jB m H (wg H rfl rfl (aH c0)) rfl rfl rfl (by omega) rfl ?_;clear H;intro a H;exact dZ
   ·refine dO 10 21 4 15 rfl rfl fun _ a w G1 hG HT H fin=>?_;refine zi kW jB 0 H (wg H rfl rfl (aH c0)) rfl rfl rfl (by simp) rfl ?_;clear H;intro a H;exact dZ
   clear H;intro a w G wP H hv;have H:=H.aN (hv 15 26 rfl rfl) rfl;clear hv;refine aB ⟨rfl,?_⟩;refine K7 _ _ ?_;clear K7;refine jr H rfl ?_ ?_
   ·intro jw
    try have p26:=dT jw
    have hmr:m - 1 < (r.takeWhile p).length:=by
     refine (Sy (p:=p) r (m - 1) (by omega) (by omega)).1 ?_;have h1:=hkm (by omega)
     have h2:(y :: r)[m]=r[m - 1]:=by
      obtain ⟨q,rfl⟩:∃ q,m=q+1:=⟨m - 1,by omega⟩
      rfl
     rw [hp];rw [h2] at h1;exact mM (by rw [h1];exact p26)
    refine kP H (Kc K6 (SB (SC (Rm rfl (Rd rfl (Ra rfl ?_))))));clear H K6;intro a H;refine aB ?_;refine dJ ((m+1,_)) (by exact H.sub ⟨rfl,rfl,rfl,ay⟩) ?_
    (try dsimp only);exact ⟨by omega,by omega,fun b o h=>wP b o (hg3 b o h)⟩
   intro jw
   try have p26:=dF jw
   refine eu ?_;refine K5 _ _ ?_;clear K5;refine bR (fun _ K8=>?_);refine bR (fun _ K9=>?_)
   have hmr:m=1+(r.takeWhile p).length:=by
    by_cases hlt:m < 1+(r.takeWhile p).length
    ·exfalso
     have h1:=(Sy (p:=p) r (m - 1) (by omega) (by omega)).2 (by omega);have h3:=hkm (by omega)
     have h2:(y :: r)[m]=r[m - 1]:=by
      obtain ⟨q,rfl⟩:∃ q,m=q+1:=⟨m - 1,by omega⟩
      rfl
     have h4:=pI ((congrFun hp _).symm.trans h1);rw [h2] at h3;rw [h3] at h4
     first|exact p26 h4|exact c0 (by omega)
    omega
   have htk:(y :: r).take m=y :: r.takeWhile p:=by rw [hmr,Nat.add_comm,List.take_succ_cons,ahl]
   have hdr:(y :: r).drop m=r.dropWhile p:=by rw [hmr,Nat.add_comm,xG,ahk]
   rw [<- htk,<- hdr] at kT;refine dI hmx [[],[],[1],[1,2],[1,2,3],[],[],[5,6],ra 0 8,ra 0 9] [8,9] (by kernel_rfl) [_,_,(aK b (o+0*4)),_,_,_,_,.slice (some ⟨b,o,none⟩) m d] H (aC (Z0 rfl (Rm rfl)) (Z0 rfl (Rm rfl)) ?_ (Z1 2 31 rfl (Rf yK rfl)) (aC (X1 3 32 rfl fun hG=>Rg aG rfl (aF hG (aF wP (aF hg3 (hr0 1 _ rfl))))) (Z0 rfl (Rm rfl)) (Z0 rfl (Rm rfl)) ?_ (bP (bU rfl) (bP (bU rfl) dH)))) ?_
   ·refine eY 1 30 rfl rfl fun _ a w G1 hG HT H fin=>?_;refine zi kW jB 0 H wn rfl rfl rfl (by simp) rfl ?_;clear H;intro a H;exact dZ
   ·refine dO 5 34 6 35 rfl rfl fun _ a w G1 hG HT H fin=>?_;refine FL kW jB m H wn rfl rfl rfl (by omega) rfl ?_;clear H;intro a H;exact dZ
   clear H;intro a w G oz H hv;have H:=H.aN (hv 0 29 rfl rfl) rfl;have H:=H.aN (hv 4 33 rfl rfl) rfl;have H:=H.aN (hv 7 36 rfl rfl) rfl;clear hv;refine Eh (Li:=[]) (L:=Lt) H wn rfl rfl (hcb j1 _ _ _ _ ⟨_,kT.head,_,rfl,by rw [List.map_take];exact ((qz.hd m (by simp;omega)).mono fun b o h=>oz b o (wP b o (hg3 b o h)))⟩ (fun b o h=>oz b o (wP b o (hg3 b o (hgm b o h)))) (zM _ _ _ _ (fun b o h=>oz b o (wP b o (hg3 b o h))) kT.now) (Hp.owns (Li:=[]) H.hp)) rfl ?_;clear H;rintro v37 Tk OY a w ⟨b37,rfl,hb1,hb2⟩ QB H;refine kH H (Rn rfl ?_);clear H;intro a H;refine aB ⟨rfl,?_⟩;refine K9 _ _ ?_;clear K9;refine jr H rfl ?_ ?_
   ·intro fT
    try have p38:=dT fT
    refine dw ?_;refine (leave0 H results212 ?_).1
    exact Uf
   intro fT
   try have p38:=dF fT
   refine kP H (Kc K8 (SC (Rm rfl (Rm rfl ?_))));clear H K8;intro a H;refine zW kW jB m H wn rfl rfl rfl (by omega) rfl ?_;clear H;intro a H;refine kH H (Ra rfl ?_);clear H;intro a H;refine aB ?_;refine XG ((f,(y :: r).drop m,_,d - m,j1+1,OY,Tk)) (by exact (show St _ _ _ _ _ _ _ ((3,.slice _ ((y :: r).drop m).length (d - m)) :: _) _ _ from by rw [List.length_drop];exact H).sub ⟨rfl,rfl,ay⟩) ?_ ?_
   ·(try dsimp only);refine ⟨by rw [List.length_drop];omega,by rw [List.length_drop];omega,fun b o h=>QB b o (oz b o (wP b o (hg3 b o (hgm b o h)))),?_,kT.step (hb1 (by simpa using fT))⟩;have h1:=qz.part m (y :: r).length (by omega) (by simp);rw [<- List.map_drop,jm (by simp)] at h1;rw [List.length_drop];exact aaF
   show ((y :: r).drop m).length < (y :: r).length;rw [List.length_drop];omega
  skip;refine dI hmx [[],[],[1],[0,1,2],ra 0 4,ra 0 5,ra 0 5,ra 0 7,ra 0 8,ra 0 9,ra 0 5,[0,1,2,3,4,10],[0,1,2,3,4,10,11],[0,1,2,3,4,10,11,12],ra 0 14,ra 0 15] [] (by kernel_rfl) [_,_,_,_,_,undef,undef,undef,undef,undef,undef,undef,undef,undef,undef,_] H (aC (Z0 rfl (Rm rfl)) (Z0 rfl (Rm rfl)) (Z1 1 12 rfl (Rl kW rfl)) (Z2 0 11 2 13 rfl (Rc rfl)) (aC (Z1 3 14 rfl (Rm rfl)) (aZ 4 (aY c0) rfl rfl) (aZ 4 (aY c0) rfl rfl) (aZ 4 (aY c0) rfl rfl) (aC (aZ 4 (aY c0) rfl rfl) (aZ 4 (aY c0) rfl rfl) (aZ 4 (aY c0) rfl rfl) (aZ 4 (aY c0) rfl rfl) (aC (aZ 4 (aY c0) rfl rfl) (aZ 4 (aY c0) rfl rfl) (aZ 4 (aY c0) rfl rfl) (Z2 4 15 14 25 rfl (Pf (aY c0) rfl)) dH)))) ?_
  clear H;intro a w G wP H hv;have H:=H.aN (hv 15 26 rfl rfl) rfl;clear hv;refine aB ⟨rfl,?_⟩;refine K7 _ _ ?_;clear K7;refine sS H rfl rfl ?_;refine eu ?_;refine K5 _ _ ?_;clear K5;refine bR (fun _ aS=>?_);refine bR (fun _ bH=>?_)
  have hmr:m=1+(r.takeWhile p).length:=by
   by_cases hlt:m < 1+(r.takeWhile p).length
   ·exfalso
    have h1:=(Sy (p:=p) r (m - 1) (by omega) (by omega)).2 (by omega);have h3:=hkm (by omega)
    have h2:(y :: r)[m]=r[m - 1]:=by
     obtain ⟨q,rfl⟩:∃ q,m=q+1:=⟨m - 1,by omega⟩
     rfl
    have h4:=pI ((congrFun hp _).symm.trans h1);rw [h2] at h3;rw [h3] at h4
    first|exact p26 h4|exact c0 (by omega)
   omega
  have htk:(y :: r).take m=y :: r.takeWhile p:=by rw [hmr,Nat.add_comm,List.take_succ_cons,ahl]
  have hdr:(y :: r).drop m=r.dropWhile p:=by rw [hmr,Nat.add_comm,xG,ahk]
  rw [<- htk,<- hdr] at kT;refine dI hmx [[],[],[1],[1,2],[1,2,3],[],[],[5,6],ra 0 8,ra 0 9] [8,9] (by kernel_rfl) [_,_,(aK b (o+0*4)),_,_,_,_,.slice (some ⟨b,o,none⟩) m d] H (aC (Z0 rfl (Rm rfl)) (Z0 rfl (Rm rfl)) ?_ (Z1 2 31 rfl (Rf yK rfl)) (aC (X1 3 32 rfl fun hG=>Rg aG rfl (aF hG (aF wP (aF hg3 (hr0 1 _ rfl))))) (Z0 rfl (Rm rfl)) (Z0 rfl (Rm rfl)) ?_ (bP (bU rfl) (bP (bU rfl) dH)))) ?_
  ·refine eY 1 30 rfl rfl fun _ a w G1 hG HT H fin=>?_;refine zi kW jB 0 H wn rfl rfl rfl (by simp) rfl ?_;clear H;intro a H;exact dZ
  ·refine dO 5 34 6 35 rfl rfl fun _ a w G1 hG HT H fin=>?_;refine FL kW jB m H wn rfl rfl rfl (by omega) rfl ?_;clear H;intro a H;exact dZ
  clear H;intro a w G oz H hv;have H:=H.aN (hv 0 29 rfl rfl) rfl;have H:=H.aN (hv 4 33 rfl rfl) rfl;have H:=H.aN (hv 7 36 rfl rfl) rfl;clear hv;refine Eh (Li:=[]) (L:=Lt) H wn rfl rfl (hcb j1 _ _ _ _ ⟨_,kT.head,_,rfl,by rw [List.map_take];exact ((qz.hd m (by simp;omega)).mono fun b o h=>oz b o (wP b o (hg3 b o h)))⟩ (fun b o h=>oz b o (wP b o (hg3 b o (hgm b o h)))) (zM _ _ _ _ (fun b o h=>oz b o (wP b o (hg3 b o h))) kT.now) (Hp.owns (Li:=[]) H.hp)) rfl ?_;clear H;rintro v37 Tk OY a w ⟨b37,rfl,hb1,hb2⟩ QB H;refine kH H (Rn rfl ?_);clear H;intro a H;refine aB ⟨rfl,?_⟩;refine bH _ _ ?_;clear bH;refine jr H rfl ?_ ?_
  ·intro fT
   try have p38:=dT fT
   refine dw ?_;refine (leave0 H results212 ?_).1
   exact Uf
  intro fT
  try have p38:=dF fT
  refine kP H (Kc aS (SC (Rm rfl (Rm rfl ?_))));clear H aS;intro a H;refine zW kW jB m H wn rfl rfl rfl (by omega) rfl ?_;clear H;intro a H;refine kH H (Ra rfl ?_);clear H;intro a H;refine aB ?_;refine XG ((f,(y :: r).drop m,_,d - m,j1+1,OY,Tk)) (by exact (show St _ _ _ _ _ _ _ ((3,.slice _ ((y :: r).drop m).length (d - m)) :: _) _ _ from by rw [List.length_drop];exact H).sub ⟨rfl,rfl,ay⟩) ?_ ?_
  ·(try dsimp only);refine ⟨by rw [List.length_drop];omega,by rw [List.length_drop];omega,fun b o h=>QB b o (oz b o (wP b o (hg3 b o (hgm b o h)))),?_,kT.step (hb1 (by simpa using fT))⟩;have h1:=qz.part m (y :: r).length (by omega) (by simp);rw [<- List.map_drop,jm (by simp)] at h1;rw [List.length_drop];exact aaF
  show ((y :: r).drop m).length < (y :: r).length;rw [List.length_drop];omega
 intro h10 a H
 try have jd:=dF h10
 refine eu ?_;refine (leave0 H results212 ?_).2
 exact Uf
theorem atb (G:GH) (w0:World) (hG:Hold G w0) (h:dN) (p d l:ah) (hh:jq G h p d l) (hz:h.marks.layers.length<=4294967290) :
  Calls prog 160 #[sj h p d l] w0 (bE w0 G fun u G'=>∃ bd,u=.func (.func 212) #[] #[(aK bd 0)]∧Iter prog G' u ((rC h.marks.layers.length h.marks.layers).map gP)):=by
 obtain ⟨pA,pn,pc,rfl⟩:=hh.props.form;obtain ⟨dA,dn,dc,rfl⟩:=hh.bJ.form;obtain ⟨lA,ln,lc,rfl⟩:=hh.layers.form;refine eN [(0,_)] func160 rfl ntmps160 rfl rfl hG ?_;intro a H;refine dz (fun _ K1=>?_);refine eB (cs:=[_,_,_,_,_]) H wn rfl rfl rfl ?_;clear H;intro b1 a w hb1 H;refine kH H (aj K1 rfl (SR fun _ K2=>?_));clear H K1;intro a H;refine qd H wn rfl rfl ?_;clear H;intro a H;refine kH H (aj K2 rfl ?_);clear H K2;intro a H;refine dw ?_;obtain ⟨G2,hm2,hb1,H⟩:=H.fO;refine lv H results160 rfl ?_;exact H.rt ⟨b1,rfl,aoU (v:=.slice lA ln lc) (by unfold aI;rw [hb1];rfl) (hh.layers.mono hm2) hz⟩
theorem nu {G:GH} {b:Nat} {cs:List ah} {e:TypeId} {q:Nat × Nat} (h:G b=some (.cells cs.toArray e q)) (k:Nat) (ds:List ah) (hd:ds=(cs.drop k).take ds.length) (j:Nat) (v:ah) (hj:ds[j]?=some v):aI G b (k+j)=some v:=by
 unfold aI
 rw [h]
 show cs.toArray[k+j]?=some v
 rw [hd,uL] at hj
 split at hj
 ·simpa using hj
 cases hj
theorem ahp:Ty prog 232 1 8 [.nilFunc] false:=⟨by kernel_rfl,by kernel_rfl⟩
theorem abZ:aQ 157:=aR func157 rfl
theorem La:prog.underlying 240=some (.slice 242):=by kernel_rfl
theorem KU:qR prog 29 [(0,1),(1,4)] [.slice none 0 0,.int .i64 0,.int .i64 0,.slice none 0 0,.slice none 0 0]:=⟨by kernel_rfl,by kernel_rfl⟩
theorem YG:qR prog 27 [(0,1),(1,1),(2,1),(3,1)] [.int .i64 0,.int .i64 0,.slice none 0 0,.slice none 0 0]:=⟨by kernel_rfl,by kernel_rfl⟩
theorem alB:aQ 160:=aR func160 rfl
theorem alC:aQ 161:=aR func161 rfl
theorem alD:aQ 162:=aR func162 rfl
theorem alE:aQ 163:=aR func163 rfl
theorem alF:aQ 164:=aR func164 rfl
theorem aly:aQ 155:=aR func155 rfl
theorem alz:aQ 156:=aR func156 rfl
theorem alA:aQ 158:=aR func158 rfl
def Dj (vv:ah) (G:GH) (acc rej:Int->Bool):Prop:=∀ (G1:GH) (w1:World),(∀ b o,G b=some o->G1 b=some o)->Hold G1 w1->∀ r:Int,sK prog vv [vi r] w1 (bE w1 G1 fun u G'=>u=.tuple #[.bool (acc r),.bool (rej r)])
def Ae (fv:ah) (G:GH) (f:Int->Bool):Prop:=∀ (G1:GH) (w1:World),(∀ b o,G b=some o->G1 b=some o)->Hold G1 w1->∀ r:Int,sK prog fv [vi r] w1 (bE w1 G1 fun u G'=>u=.bool (f r))
theorem Dj.mono {vv:ah} {G G':GH} {acc rej:Int->Bool} (hm:∀ b o,G b=some o->G' b=some o) (h:Dj vv G acc rej):Dj vv G' acc rej:=fun G1 w1 h1=>h G1 w1 fun b o hb=>h1 b o (hm b o hb)
theorem Ae.mono {vv:ah} {G G':GH} {f:Int->Bool} (hm:∀ b o,G b=some o->G' b=some o) (h:Ae vv G f):Ae vv G' f:=fun G1 w1 h1=>h G1 w1 fun b o hb=>h1 b o (hm b o hb)
abbrev O5 (b:Nat):ah:=.func (.func 155) #[] #[(aK b 0)]
abbrev RP (b:Nat):ah:=.func (.func 156) #[] #[(aK b 0)]
theorem aiC {G:GH} {b:Nat} {vv:ah} {acc rej:Int->Bool} (hb:aI G b 0=some vv) (hv:Dj vv G acc rej):Ae (O5 b) G acc:=by
 intro G1 w0 hm hG r;refine jv (caps:=[(aK b 0)]) aly ?_;replace hb:=aF hm hb;refine eN [(0,_),(1,_)] func155 rfl ntmps155 rfl rfl hG ?_;intro a H;refine kP H (SR fun _ K1=>aj K1 rfl (SR fun _ K2=>Rg ahp rfl hb (Rm rfl ?_)));clear H K1;intro a H;refine jJ H wn rfl rfl (hv _ _ hm H.ro r) rfl ?_;clear H;rintro v9 G9 a w rfl yS H;refine kH H (Rm rfl ?_);clear H;intro a H;(iterate 2 refine mh H wn rfl rfl rfl ?_;clear H;intro a H);exact kH H (Ra rfl (aj K2 rfl (SR fun _ K3=>Rm rfl (aj K3 rfl (LR results155 rfl fun H=>H.rt rfl)))))
theorem auM {G:GH} {b:Nat} {vv:ah} {acc rej:Int->Bool} (hb:aI G b 0=some vv) (hv:Dj vv G acc rej):Ae (RP b) G rej:=by
 intro G1 w0 hm hG r;refine jv (caps:=[(aK b 0)]) alz ?_;replace hb:=aF hm hb;refine eN [(0,_),(1,_)] func156 rfl ntmps156 rfl rfl hG ?_;intro a H;refine kP H (SR fun _ K1=>aj K1 rfl (SR fun _ K2=>Rg ahp rfl hb (Rm rfl ?_)));clear H K1;intro a H;refine jJ H wn rfl rfl (hv _ _ hm H.ro r) rfl ?_;clear H;rintro v9 G9 a w rfl yS H;refine kH H (Rm rfl ?_);clear H;intro a H;(iterate 2 refine mh H wn rfl rfl rfl ?_;clear H;intro a H);exact kH H (Ra rfl (aj K2 rfl (SR fun _ K3=>Rm rfl (aj K3 rfl (LR results156 rfl fun H=>H.rt rfl)))))
theorem abI {G:GH} {b:Nat} {fv:ah} {acc:Int->Bool} (hb:aI G b 0=some fv) (hv:Ae fv G acc) (x:gJ):uJ (.func (.func 158) #[] #[(aK b 0)]) G x.dat (acc x.rev):=by
 intro G1 w0 cs hm hG hr;obtain rfl:=Ms hr;refine jv (caps:=[(aK b 0)]) alA ?_;replace hb:=aF hm hb;refine eN [(0,_),(1,_)] func158 rfl ntmps158 rfl rfl hG ?_;intro a H;refine dz (fun _ K1=>?_);refine eB (cs:=[_,_]) H wn rfl rfl rfl ?_;clear H;intro b2 a w hb2 H;refine kH H (aj K1 rfl (SR fun _ K2=>Rg CY rfl hb (bO EL aG 0 rfl rfl ?_)));clear H K1;intro a H;refine jJ H wn rfl rfl (hv _ _ hm H.ro x.rev) rfl ?_;clear H;rintro v7 G7 a w rfl yR H;exact kH H (aj K2 rfl (LR results158 rfl fun H=>H.rt rfl))
theorem aue (G:GH) (w0:World) (hG:Hold G w0) (l:List aL) (v:ah) (hv:ak G (.sl 2 (l.map aL.dat)) v) (hz:l.length<=4294967296) :
  Calls prog 159 #[v] w0 (bE w0 G fun u G'=>ak G' (.sl 2 (l.map aL.dat)) u):=by
 obtain ⟨A,n,c,rfl⟩:=hv.form;refine eN [(0,_)] func159 rfl ntmps159 rfl rfl hG ?_;intro a H;refine kP H (SR fun _ K1=>aj K1 rfl (SR fun _ K2=>Rm rfl ?_));clear H K1;intro a H;refine s_call P6 H wn rfl (Uv _ _ H.ro _ _ _ _ hv (by simpa using hz)) rfl ?_;clear H;rintro v4 G4 a w WU M4 H;exact kH H (aj K2 rfl (LR results159 rfl fun H=>H.rt WU))
abbrev N7 (s:Int × Bool):List Dat:=[li s.1,.lf (.bool s.2)]
theorem ahe (G:GH) (s:Int × Bool):bD G (N7 s) [vi s.1,.bool s.2]:=by simp [bD,ak,Value.oneCell']
theorem ahh {G:GH} {l:List (Int × Bool)} {A:Option Addr} {n c k:Nat} (hv:ak G (.sl 2 (l.map N7)) (.slice A n c)) (hk:k < l.length):∃ b o,A=some ⟨b,o,none⟩∧∀ j u,[vi l[k].1,.bool l[k].2][j]?=some u->aI G b (o+k*2+j)=some u:=by
 obtain ⟨b,o,cs,h1,h2,h3,h4⟩:=hv.at_ k (N7 l[k]) (by simp [hk])
 simp only [bD,ak] at h4
 obtain ⟨_,_,rfl,⟨rfl,-⟩,_,_,rfl,⟨rfl,-⟩,rfl⟩:=h4;exact Gm
theorem asD (G:GH) (y:bZ):bD G y.dat y.cells:=by simp [bZ.dat,bZ.cells,bD,ak,Value.oneCell']
theorem abH (G:GH) (y:gJ):bD G y.dat y.cells:=by simp [gJ.dat,gJ.cells,bD,ak,Value.oneCell']
theorem axf (props:List aL) (key:Int) (l:List bZ):(qg props key l).length=l.length+1:=by simp [qg]
theorem acQ {l:List gJ} {p:gJ->Bool}:(l.findIdx? p).isSome=true↔∃ x∈l,p x=true:=by rw [List.findIdx?_isSome,List.any_eq_true]
theorem aoT {L:List (Int × List bZ)} {l:List bZ} (h:L.flatMap Prod.snd=l) (hn:∀ q∈L,q.2≠[]) (k:Nat) (hk:k<=L.length):k<=((L.take k).flatMap Prod.snd).length∧((L.take k).flatMap Prod.snd).length<=l.length:=by
 constructor
 ·induction k with
  | zero=>exact lu _
  | succ k ih =>
   have:=ih (by omega);rw [kg (by omega),List.flatMap_append,jM];have h2:=List.length_pos_iff.2 (hn L[k] (lC (by omega)))
   simp only [List.flatMap_cons,List.flatMap_nil,iF]
   omega
 have e:l=(L.take k).flatMap Prod.snd++(L.drop k).flatMap Prod.snd:=by rw [<- List.flatMap_append,List.take_append_drop,h]
 rw [e,jM];omega
def sM (acc rej:Int->Bool) (h:dN) (u:ah) (G:GH):Prop:=if lG acc rej h then aad false Bz u G else aad true (iH acc rej h) u G
theorem Pv {p:Prop} (h:p:=by
 first
  | exact H.rt (by rw [sM,aD (by first|exact .inl ⟨by assumption,by assumption⟩|exact .inr (acQ.1 (by assumption)))];exact ⟨_,_,_,rfl,aic _⟩)
  | (obtain ⟨Gr2,aed,Ih,H⟩:=St.qG (Li:=[_,_]) H hrw (rows:=ly.map bZ.dat) (by simp) fQ
     exact H.rt (by rw [sM,av Ia,hdh];exact ⟨_,_,_,rfl,⟨hpv.mono aed,(hdr.mono nA).mono aed,Ih⟩⟩))):p:=h
theorem aaG {p:Prop} (h:p:=by
 exact ⟨fun hg=>hg.elim (fun g=>by simp_all) (fun g=>by have g4:=acQ.2 g;simp_all),by first|assumption|exact fun b o h=>WI b o (aqM b o h)⟩):p:=h
theorem GD {p:Prop} (h:p:=by
 exact GQ HT Hb hG hv (WX bq) H rfl):p:=h
theorem Jt {p:Prop} (h:p:=by
 exact ⟨by omega,dR.nil,dK.nil,fun _ _ h=>h⟩):p:=h
theorem EH {p:Prop} (h:p:=by
 exact GQ HT Hb hG hv (aes bq) H rfl):p:=h
set_option maxHeartbeats 8000000 in
theorem XM (G:GH) (w0:World) (hG:Hold G w0) (acc rej:Int->Bool) (vv:ah) (hvv:Dj vv G acc rej) (hcv:vv.cells=#[vv]) (h:dN) (p d l:ah) (hh:jq G h p d l) (hz:mW h<=1073741824) :
    Calls prog 96 #[sj h p d l,vv] w0 (bE w0 G (sM acc rej h)):=by
  have hml:maxLen=9223372036854775807:=rfl;have hzh:=FR h;have hz1:=qL (h.props.map aL.dat);have hz2:=qL (h.marks.bJ.map gJ.dat);have hz3:=qL (h.marks.layers.map bZ.dat)
  simp only [bQ] at hz1 hz2 hz3
  obtain ⟨pA,pn,pc,rfl⟩:=hh.props.form;obtain ⟨dA,dn,dc,rfl⟩:=hh.bJ.form;obtain ⟨lA,ln,lc,rfl⟩:=hh.layers.form;have hdn:=hh.bJ.len;rw [bQ] at hdn;subst hdn;refine eN [(0,_),(1,_)] func96 rfl ntmps96 rfl rfl hG ?_;intro a H;refine dz (fun _ K1=>?_);refine eB (cs:=[_,_,_,_,_]) H wn rfl rfl rfl ?_;clear H;intro b2 a w hb2 H;refine eB (cs:=[vv]) H wn rfl hcv rfl ?_;clear H;intro b3 a w hb3 H;refine dP dW H wn rfl ?_;clear H;intro b4 a w hb4 H;refine kH H (aj K1 rfl (SR fun _ K2=>?_));clear H K1;intro a H;refine qd H wn rfl rfl ?_;clear H;intro a H;refine dP CY H wn rfl ?_;clear H;intro b6 a w hb6 H;refine bK CY 0 (vs:=[_]) H wn rfl ?_;clear H;intro w H;refine K2 _ _ ?_;clear K2;refine dz (fun _ K3=>?_);refine qd H wn rfl rfl ?_;clear H;intro a H;refine dP CY H wn rfl ?_;clear H;intro b7 a w zN H;refine bK CY 0 (vs:=[_]) H wn rfl ?_;clear H;intro w H;refine K3 _ _ ?_;clear K3;refine kP H (SR fun _ K4=>Rf qp rfl ?_);clear H;intro a H;refine aV Eo (cs:=[_,_,_,_]) H wn rfl rfl (H.hp.cB 4 rfl rfl) rfl ?_;clear H;intro a H;refine dP Eo H wn rfl ?_;clear H;intro b8 a w Cr H;refine bK Eo 0 (vs:=[_,_,_,_]) H wn rfl ?_;clear H;intro w H;have H:=H.fG (Pl:=[_,_,_,_,_,_]) (eH:=[_,_,_,_,_,_]) [5,4,2,1,0,3] (by decide) rfl;obtain ⟨Ga,hma,hb2',H⟩:=H.fO;obtain ⟨Gb,hmb,wQ,H⟩:=H.fO;obtain ⟨Gc,hmc,MV,H⟩:=H.fO;obtain ⟨Gd,hmd,aqa,H⟩:=H.fO;obtain ⟨Ge,hme,Ws,H⟩:=H.fO;have Fa:∀ b o,G b=some o->Ge b=some o:=fun b o h=>hme b o (hmd b o (hmc b o (hmb b o (hma b o h))));have q2:∀ j v,[.slice pA pn pc,vi h.marks.ins,vi h.marks.move,.slice dA h.marks.bJ.length dc,.slice lA ln lc][j]?=some v->aI Ge b2 (0+j)=some v:=fun j v hj=>aF (fun b o h=>hme b o (hmd b o (hmc b o (hmb b o h)))) (nu hb2' 0 _ rfl j v hj);have q8:∀ j v,[vi h.marks.ins,vi h.marks.move,.slice dA h.marks.bJ.length dc,.slice lA ln lc][j]?=some v->aI Ge b8 (0+j)=some v:=fun j v hj=>nu Ws 0 _ rfl j v hj;have hvb:aI Gb b3 0=some vv:=nu wQ 0 [vv] rfl 0 _ rfl;have xS:Ae (O5 b3) Ge acc:=(aiC hvb (hvv.mono fun b o h=>hmb b o (hma b o h))).mono fun b o h=>hme b o (hmd b o (hmc b o h));have yP:Ae (RP b3) Ge rej:=(auM hvb (hvv.mono fun b o h=>hmb b o (hma b o h))).mono fun b o h=>hme b o (hmd b o (hmc b o h));have q6:aI Ge b6 0=some (O5 b3):=aF (fun b o h=>hme b o (hmd b o h)) (nu MV 0 [O5 b3] rfl 0 _ rfl);have q7:aI Ge b7 0=some (RP b3):=aF hme (nu aqa 0 [RP b3] rfl 0 _ rfl);replace hh:=hh.mono Fa;refine K4 _ _ ?_;clear K4;refine uf (ι:=GH) (Tc:=[(2,_),(4,_),(6,_),(7,_),(8,_)]) (Lc:=[(_,_)]) (fun gh=>[]) (fun gh=>[]) (fun gh=>gh) (fun gh=>¬ lG acc rej h∧(∀ b o,Ge b=some o->gh b=some o)) (by exact H.sub ⟨rfl,rfl,rfl,rfl,rfl,ay⟩) ?_ ?_
  · skip;refine kP H (SR fun _ K5=>Rf sV rfl (Rg aG rfl (q8 0 _ rfl) (Rc rfl (Rm rfl (Sp 29 rfl ?_ ?_))))) <;> clear H
    · intro iB a H
      try have p29:=dT iB
      refine kH H (YR CY iB rfl q7 (YF sV iB rfl (YR aG iB rfl (q8 0 _ rfl) ?_)));clear H;intro a H;refine jJ H (wg H rfl rfl iB) rfl rfl (yP _ _ (fun _ _ h=>h) H.ro h.marks.ins) rfl ?_;clear H;rintro v33 G33 a w rfl aqM H;refine kH H (Pt iB rfl (Rm rfl (Sp 35 rfl ?_ ?_))) <;> clear H
      · intro iC a H
        try have p35:=dT iC
        refine kH H (aJ iC rfl (aJ iC rfl (Pt iC rfl (Kz K5 (Ct rfl rfl (SR fun _ K6=>?_))))));clear H K5;intro a H;refine jF KU [_,_,_,_,_] H wn rfl rfl rfl rfl ?_;clear H;intro a H;refine bK dW 0 (vs:=[_,_,_,_,_]) H wn rfl ?_;clear H;intro w H;refine kH H (aj K6 rfl ?_);clear H K6;intro a H;refine dw ?_;refine (fJ H results96 (.cons (mI dW (cs:=[_,_,_,_,_]) H rfl rfl (H.hp.cB 0 rfl rfl)) (.cons (bB H rfl) .nil)) ?_).1
        exact Pv
      intro iC a H
      try have p35:=dF iC
      refine kH H (YF uj iC rfl (YR uD iC rfl (aF (by first|assumption|exact fun _ _ h=>h) (q8 2 _ rfl)) ?_));clear H;intro a H;refine qd H (wg H rfl rfl iC) rfl rfl ?_;clear H;intro a H;refine s_call abZ H (wg H rfl rfl iC) rfl (abt _ _ H.ro h.marks.bJ (fun x=>acc x.rev) _ _ (hh.bJ.mono (by first|assumption|exact fun _ _ h=>h)) (fun x _=>abI (aF (by first|assumption|exact fun _ _ h=>h) q6) (xS.mono (by first|assumption|exact fun _ _ h=>h)) x)) rfl ?_;clear H;rintro v39 Zv a w rfl WI H;refine kH H (Pf iC rfl (Kz K5 (Cd rfl ?_ ?_))) <;> clear H K5
      · intro lH a H
        try have p40:=dT lH
        refine dz (fun _ K7=>?_);refine jF KU [_,_,_,_,_] H wn rfl rfl rfl rfl ?_;clear H;intro a H;refine bK dW 0 (vs:=[_,_,_,_,_]) H wn rfl ?_;clear H;intro w H;refine kH H (aj K7 rfl ?_);clear H K7;intro a H;refine dw ?_;refine (fJ H results96 (.cons (mI dW (cs:=[_,_,_,_,_]) H rfl rfl (H.hp.cB 0 rfl rfl)) (.cons (bB H rfl) .nil)) ?_).1
        exact Pv
      intro lH a H
      try have p40:=dF lH
      refine iG ?_;refine ⟨_,by exact H.sub ⟨rfl,rfl,rfl,rfl,rfl,ay⟩,?_⟩;exact aaG
    intro iB a H
    try have p29:=dF iB
    refine kH H (aJ iB rfl (aJ iB rfl (Pf iB rfl (Rm rfl ?_))));clear H;intro a H;refine KR uj H (wg H rfl rfl rfl) rfl rfl ?_;clear H;intro a H;refine rO uD H (wg H rfl rfl rfl) rfl (H.hp.aI (aF (by first|assumption|exact fun _ _ h=>h) (q8 2 _ rfl))) rfl ?_;clear H;intro a H;refine qd H (wg H rfl rfl rfl) rfl rfl ?_;clear H;intro a H;refine s_call abZ H (wg H rfl rfl rfl) rfl (abt _ _ H.ro h.marks.bJ (fun x=>acc x.rev) _ _ (hh.bJ.mono (by first|assumption|exact fun _ _ h=>h)) (fun x _=>abI (aF (by first|assumption|exact fun _ _ h=>h) q6) (xS.mono (by first|assumption|exact fun _ _ h=>h)) x)) rfl ?_;clear H;rintro v39 Zv a w rfl WI H;refine kH H (Pf rfl rfl (Kz K5 (Cd rfl ?_ ?_))) <;> clear H K5
    · intro lH a H
      try have p40:=dT lH
      refine dz (fun _ K8=>?_);refine jF KU [_,_,_,_,_] H wn rfl rfl rfl rfl ?_;clear H;intro a H;refine bK dW 0 (vs:=[_,_,_,_,_]) H wn rfl ?_;clear H;intro w H;refine kH H (aj K8 rfl ?_);clear H K8;intro a H;refine dw ?_;refine (fJ H results96 (.cons (mI dW (cs:=[_,_,_,_,_]) H rfl rfl (H.hp.cB 0 rfl rfl)) (.cons (bB H rfl) .nil)) ?_).1
      exact Pv
    intro lH a H
    try have p40:=dF lH
    refine iG ?_;refine ⟨_,by exact H.sub ⟨rfl,rfl,rfl,rfl,rfl,ay⟩,?_⟩;exact aaG
  clear H;intro gj a w hI H;obtain ⟨Ia,hgj⟩:=hI;replace q2:=fun j v hj=>aF hgj (q2 j v hj);replace q8:=fun j v hj=>aF hgj (q8 j v hj);replace q6:=aF hgj q6;replace q7:=aF hgj q7;replace xS:=xS.mono hgj;replace yP:=yP.mono hgj;replace hh:=hh.mono hgj;dsimp only [lca,bM] at H;refine bR (fun _ K9=>?_)
  have WX:∀ (bq dh:Nat) (v:ah) (G G':GH),(∀ k o,G k=some o->G' k=some o)->(fun (bq dh:Nat) (v:ah) (G:GH)=>match dh with|0=>v=(aK b2 0)|1=>v=.slice pA pn pc|2=>ak G (.sl 2 (h.props.map aL.dat)) v|3=>v=(aK b8 0)|4=>v=vi h.marks.ins|5=>v=(aK b8 1)|6=>v=vi h.marks.move|7=>v=.agg #[vi h.marks.ins,vi h.marks.move,.slice none 0 0,.slice none 0 0]|8=>∃ A n c,v=.agg #[.slice A n c,vi h.marks.ins,vi h.marks.move,.slice none 0 0,.slice none 0 0]∧ak G (.sl 2 (h.props.map aL.dat)) (.slice A n c)|9=>v=(aK bq 0)|_=>True) bq dh v G->(fun (bq dh:Nat) (v:ah) (G:GH)=>match dh with|0=>v=(aK b2 0)|1=>v=.slice pA pn pc|2=>ak G (.sl 2 (h.props.map aL.dat)) v|3=>v=(aK b8 0)|4=>v=vi h.marks.ins|5=>v=(aK b8 1)|6=>v=vi h.marks.move|7=>v=.agg #[vi h.marks.ins,vi h.marks.move,.slice none 0 0,.slice none 0 0]|8=>∃ A n c,v=.agg #[.slice A n c,vi h.marks.ins,vi h.marks.move,.slice none 0 0,.slice none 0 0]∧ak G (.sl 2 (h.props.map aL.dat)) (.slice A n c)|9=>v=(aK bq 0)|_=>True) bq dh v G':=by
    intro bq dh v G G' hm h
    match dh,h with
    | 0,h=>exact h
    | 1,h=>exact h
    | 2,h=>exact ak.mono hm h
    | 3,h=>exact h
    | 4,h=>exact h
    | 5,h=>exact h
    | 6,h=>exact h
    | 7,h=>exact h
    | 8,h=>exact let ⟨A,n,c,h1,h2⟩:=h;⟨A,n,c,h1,h2.mono hm⟩
    | 9,h=>exact h
    | 10,h=>exact trivial
    | _+11,h=>exact trivial
  refine aiX (hmx) [[],[0],[0,1],[],[3],[],[5],ra 3 4,ra 0 8,[],ra 0 10] [10] (by kernel_rfl) (by kernel_rfl) 9 (by decide) (.cells #[.slice none 0 0,vi 0,vi 0,.slice none 0 0,.slice none 0 0] 29 (0,0)) (fun (bq dh:Nat) (v:ah) (G:GH)=>match dh with|0=>v=(aK b2 0)|1=>v=.slice pA pn pc|2=>ak G (.sl 2 (h.props.map aL.dat)) v|3=>v=(aK b8 0)|4=>v=vi h.marks.ins|5=>v=(aK b8 1)|6=>v=vi h.marks.move|7=>v=.agg #[vi h.marks.ins,vi h.marks.move,.slice none 0 0,.slice none 0 0]|8=>∃ A n c,v=.agg #[.slice A n c,vi h.marks.ins,vi h.marks.move,.slice none 0 0,.slice none 0 0]∧ak G (.sl 2 (h.props.map aL.dat)) (.slice A n c)|9=>v=(aK bq 0)|_=>True) (fun _ _ i v G hi h=>by
    (iterate 11 (rcases i with _|i;(first|exact h|exact absurd rfl hi)));exact trivial) H ?_ ?_ ?_ (by kernel_rfl)
  · clear H;refine aC ?_ ?_ ?_ ?_ (aC ?_ ?_ ?_ ?_ (bP ?_ (bP ?_ (bP ?_ dH))))
    · intro bq fI aT a w G1 _ _ aP hc hG HT hv;have H:=HT;clear aP;have Hb:=H.full;have H:=Hb;clear hc;refine kH H (Rf yL rfl ?_);clear H;intro a H;refine aB ⟨rfl,?_⟩;exact GD
    · intro bq fI aT a w G1 _ _ aP hc hG HT hv;have H:=HT;clear aP;have H:=H.aN (hv 0 42 (hc 0 (by decide)) rfl) rfl;have Hb:=H.full;have H:=Hb;clear hc;refine kH H (Rg tK rfl (aF hG (q2 0 _ rfl)) ?_);clear H;intro a H;refine aB ⟨rfl,?_⟩;exact GD
    · intro bq fI aT a w G1 _ _ aP hc hG HT hv;have H:=HT;clear aP;have H:=H.aN (hv 1 43 (hc 1 (by decide)) rfl) rfl;have Hb:=H.full;have H:=Hb;clear hc;refine s_call UU H wn rfl (aue _ _ H.ro h.props _ (hh.props.mono hG) (by omega)) rfl ?_;clear H;rintro v44 Zw a w Nh aph H;refine aB ⟨rfl,?_⟩;exact uT (by kernel_rfl) (WX bq) rfl rfl HT Hb hG hv aph (Nh) H
    · intro bq fI aT a w G1 _ _ aP hc hG HT hv;have H:=HT;clear aP;have Hb:=H.full;have H:=Hb;clear hc;refine kH H (Rf sV rfl ?_);clear H;intro a H;refine aB ⟨rfl,?_⟩;exact GD
    · intro bq fI aT a w G1 _ _ aP hc hG HT hv;have H:=HT;clear aP;have H:=H.aN (hv 3 45 (hc 3 (by decide)) rfl) rfl;have Hb:=H.full;have H:=Hb;clear hc;refine kH H (Rg aG rfl (aF hG (q8 0 _ rfl)) ?_);clear H;intro a H;refine aB ⟨rfl,?_⟩;exact GD
    · intro bq fI aT a w G1 _ _ aP hc hG HT hv;have H:=HT;clear aP;have Hb:=H.full;have H:=Hb;clear hc;refine kH H (Rf Ch rfl ?_);clear H;intro a H;refine aB ⟨rfl,?_⟩;exact GD
    · intro bq fI aT a w G1 _ _ aP hc hG HT hv;have H:=HT;clear aP;have H:=H.aN (hv 5 47 (hc 5 (by decide)) rfl) rfl;have Hb:=H.full;have H:=Hb;clear hc;refine kH H (Rg aG rfl (aF hG (q8 1 _ rfl)) ?_);clear H;intro a H;refine aB ⟨rfl,?_⟩;exact GD
    · intro bq fI aT a w G1 _ _ aP hc hG HT hv;have H:=HT;clear aP;have H:=H.aN (hv 4 46 (hc 4 (by decide)) rfl) rfl;have H:=H.aN (hv 6 48 (hc 6 (by decide)) rfl) rfl;have Hb:=H.full;have H:=Hb;clear hc;refine jF YG [_,_,_,_] H wn rfl rfl rfl rfl ?_;clear H;intro a H;refine aB ⟨rfl,?_⟩;exact GD
    · intro bq fI aT a w G1 _ _ aP hc hG HT hv;have H:=HT;clear aP;obtain ⟨u44,arL,Nh⟩:=hv 2 44 (hc 2 (by decide)) rfl;(try dsimp only at Nh);obtain ⟨A44,n44,c44,rfl⟩:=Nh.form;have H:=H.jC arL;have H:=H.aN (hv 7 49 (hc 7 (by decide)) rfl) rfl;have Hb:=H.full;have H:=Hb;clear hc;refine jF KU [_,_,_,_,_] H wn rfl rfl rfl rfl ?_;clear H;intro a H;refine aB ⟨rfl,?_⟩;exact uT (by kernel_rfl) (WX bq) rfl rfl HT Hb hG hv (fun _ _ h=>h) (⟨_,_,_,rfl,Nh⟩) H
    · intro _ _ _ _ _ _ _ hB;exact fV
    intro _ _ _ _ _ _ hB;exact fV
  · clear H;intro o_ aT a w G1 oN _ hc hG HT hv;obtain rfl:_=o_:=Option.some.inj oN;clear oN;have H:=HT;have Hb:=H.full;have H:=Hb;clear hc;refine dP dW H wn rfl ?_;clear H;intro b9 a w wR H;refine aB ⟨rfl,b9,?_⟩;exact LW
  clear H;intro b9 a w G jU H hv;have H:=H.aN (hv 9 9 rfl rfl) rfl;obtain ⟨u50,arM,ael⟩:=hv 8 50 (by decide) rfl;(try dsimp only at ael);obtain ⟨qA,qn,qc,rfl,Ig⟩:=ael;have H:=H.jC arM;clear hv;refine bK dW 0 (vs:=[_,_,_,_,_]) H wn rfl ?_;clear H;intro w H;replace q2:=fun j v hj=>aF jU (q2 j v hj);replace q8:=fun j v hj=>aF jU (q8 j v hj);replace q6:=aF jU q6;replace q7:=aF jU q7;replace xS:=xS.mono jU;replace yP:=yP.mono jU;replace hh:=hh.mono jU;obtain ⟨Gf,hGf⟩:∃ g,g=G:=⟨_,rfl⟩;refine aB ⟨rfl,?_⟩;refine K9 _ _ ?_;clear K9;refine uf (ι:=Int × Int × GH) (Tc:=[(2,_),(4,_),(6,_),(7,_),(8,_),(9,_)]) (Lc:=[(_,_)]) (fun gh=>[]) (fun gh=>[(b9,.cells #[.slice qA qn qc,vi gh.1,vi gh.2.1,.slice none 0 0,.slice none 0 0] 29 (0,0))]) (fun gh=>gh.2.2) (fun gh=>gh.1=(if jV acc h then 0 else h.marks.ins)∧gh.2.1=(if jV acc h then 0 else h.marks.move)∧(∀ b o,G b=some o->gh.2.2 b=some o)) (by exact (H.fG (Pl:=[_,_]) (eH:=[_,_]) [1,0] (by decide) rfl).sub ⟨rfl,rfl,rfl,rfl,rfl,rfl,ay⟩) ?_ ?_
  · skip;refine kP H (SR fun _ aS=>Rf sV rfl (Rg aG rfl (q8 0 _ rfl) (Rc rfl (Rm rfl (Sp 54 rfl ?_ ?_))))) <;> clear H
    · intro iL a H
      try have p54:=dT iL
      refine kH H (YR CY iL rfl q6 (YF sV iL rfl (YR aG iL rfl (q8 0 _ rfl) ?_)));clear H;intro a H;refine jJ H (wg H rfl rfl iL) rfl rfl (xS _ _ (fun _ _ h=>h) H.ro h.marks.ins) rfl ?_;clear H;rintro v58 G58 a w rfl aqP H;refine kH H (Pt iL rfl (Kz aS (Cd rfl ?_ ?_))) <;> clear H aS
      · intro jc a H
        try have p59:=dT jc
        refine kP H (SC (Rf qp rfl (Rf sV rfl ?_)));clear H;intro a H;refine bK aG 0 (vs:=[_]) H wn rfl ?_;clear H;intro w H;refine kH H (Rf qp rfl (Rf Ch rfl ?_));clear H;intro a H;refine bK aG 0 (vs:=[_]) H wn rfl ?_;clear H;intro w H;refine aB ?_;refine ⟨(_,_,_),by exact (H.fG (Pl:=[_,_]) (eH:=[_,_]) [1,0] (by decide) rfl).sub ⟨rfl,rfl,rfl,rfl,rfl,rfl,ay⟩,?_⟩;(try dsimp only)
        first
        | exact ⟨(aD ⟨by assumption,by assumption⟩).symm,(aD ⟨by assumption,by assumption⟩).symm,by assumption⟩
        | exact ⟨(av (fun hi=>by simp_all [jV])).symm,(av (fun hi=>by simp_all [jV])).symm,by first|assumption|exact fun _ _ h=>h⟩
      intro jc a H
      try have p59:=dF jc
      refine iG ?_;refine ⟨(_,_,_),by exact (H.fG (Pl:=[_,_]) (eH:=[_,_]) [1,0] (by decide) rfl).sub ⟨rfl,rfl,rfl,rfl,rfl,rfl,ay⟩,?_⟩;(try dsimp only)
      first
      | exact ⟨(aD ⟨by assumption,by assumption⟩).symm,(aD ⟨by assumption,by assumption⟩).symm,by assumption⟩
      | exact ⟨(av (fun hi=>by simp_all [jV])).symm,(av (fun hi=>by simp_all [jV])).symm,by first|assumption|exact fun _ _ h=>h⟩
    intro iL a H
    try have p54:=dF iL
    refine kH H (aJ iL rfl (aJ iL rfl (Pf iL rfl (Kz aS (Cf rfl rfl ?_)))));clear H aS;intro a H;refine iG ?_;refine ⟨(_,_,_),by exact (H.fG (Pl:=[_,_]) (eH:=[_,_]) [1,0] (by decide) rfl).sub ⟨rfl,rfl,rfl,rfl,rfl,rfl,ay⟩,?_⟩;(try dsimp only)
    first
    | exact ⟨(aD ⟨by assumption,by assumption⟩).symm,(aD ⟨by assumption,by assumption⟩).symm,by assumption⟩
    | exact ⟨(av (fun hi=>by simp_all [jV])).symm,(av (fun hi=>by simp_all [jV])).symm,by first|assumption|exact fun _ _ h=>h⟩
  clear H;rintro ⟨io,mo,gk⟩ a w hI H;dsimp only at hI H;obtain ⟨hio,hmo,qI⟩:=hI;replace q2:=fun j v hj=>aF qI (q2 j v hj);replace q8:=fun j v hj=>aF qI (q8 j v hj);replace q6:=aF qI q6;replace q7:=aF qI q7;replace xS:=xS.mono qI;replace yP:=yP.mono qI;replace hh:=hh.mono qI;replace Ig:=Ig.mono qI;dsimp only [lca,bM] at H;refine kP H (SQ fun _ bH=>SR fun _ bT=>Rf uj rfl (Rg uD rfl (q8 2 _ rfl) (Rl oJ rfl (Rm rfl (Kz bT (SB ?_))))));clear H bT;intro a H;skip;refine fF (ι:=Nat × ah × List ah × OL × GH) (Tc:=[(2,_),(4,_),(6,_),(7,_),(9,_),(65,_),(66,_)]) (Lc:=[(_,_)]) (fun gh=>[(67,vi gh.1)]) (fun gh=>[(b9,.cells #[.slice qA qn qc,vi io,vi mo,gh.2.1,.slice none 0 0] 29 (0,0))]++gh.2.2.2.1) (fun gh=>gh.2.2.2.2) (fun gh=>gh.1<=h.marks.bJ.length∧dR 159 2 gh.2.1 ((h.marks.bJ.take gh.1).filter fun x=>!rej x.rev).length gh.2.2.1 gh.2.2.2.1∧dK gh.2.2.2.2 2 (((h.marks.bJ.take gh.1).filter fun x=>!rej x.rev).map gJ.dat) gh.2.2.1∧(∀ b o,gk b=some o->gh.2.2.2.2 b=some o)) (fun gh=>h.marks.bJ.length - gh.1) ((0,.slice none 0 0,[],[],gk)) (by exact (H.NG (A:=[_,_])).sub ⟨rfl,rfl,rfl,rfl,rfl,rfl,rfl,rfl,ay⟩) ?_ ?_
  · exact Jt
  clear H;rintro ⟨k,v,xs,Ld,g⟩ a w hI H;dsimp only at hI H;obtain ⟨hk,hrw,fQ,hgm⟩:=hI;have hfl:=List.length_filter_le (fun x:gJ=>!rej x.rev) (h.marks.bJ.take k);rw [List.length_take] at hfl;dsimp only [lca,bM] at H;refine kP H (SR fun _ cK=>Rc rfl (Kz cK (SQ fun _ dB=>Cd rfl ?_ ?_))) <;> clear H cK
  · intro h68 a H
    try have p68:=dT h68
    have hk2:k < h.marks.bJ.length:=by omega
    obtain ⟨bd,od,rfl,hrow⟩:=PZ (hh.bJ.mono hgm) hk2;refine kP H (Kc dB (SQ fun _ eU=>SB (SR fun _ eX=>Ri oJ oI rfl rfl ?_)));clear H dB;intro a H;refine aV oI (cs:=[_,_]) H wn rfl rfl (fun j v hj=>H.hp.aI (hrow j v hj)) rfl ?_;clear H;intro a H;refine dP oI H wn rfl ?_;clear H;intro b11 a w J9 H;refine bK oI 0 (vs:=[_,_]) H wn rfl ?_;clear H;intro w H;refine eX _ _ ?_;clear eX;refine kP H (SR fun _ eG=>Rg CY rfl (aF hgm q7) (bO EL aG 0 rfl rfl ?_));clear H;intro a H;refine jJ H wn rfl rfl (yP _ _ hgm H.ro h.marks.bJ[k].rev) rfl ?_;clear H;rintro v74 ZB a w rfl QC H;refine kH H (Rn rfl (Kz eG (Cd rfl ?_ ?_))) <;> clear H eG
    · intro zL a H
      try have p75:=dT zL
      refine kP H (SC (Rf qp rfl (bO uj uD 2 rfl rfl ?_)));clear H;intro a H;refine aV oI (cs:=[_,_]) H wn rfl rfl (H.hp.cB 0 rfl rfl) rfl ?_;clear H;intro a H;refine iV oJ oI [_,_] [_,_] H wn rfl rfl rfl rfl rfl (by intro i q h;match i,h with|0,h=>exact h|n+1,h=>simp at h) rfl rfl ?_;clear H;intro b80 a w ayK H;refine oZ (Li:=[_,_,_,_]) (Lo:=Ld) (news:=h.marks.bJ[k].cells) oJ oI rfl rfl H wn rfl rfl hrw rfl (H.hp.cB 0 rfl rfl) rfl (by omega) (by omega) rfl ?_;clear H;intro v81 ain a w aeE H;obtain ⟨A81,c81,rfl,-,-⟩:=aeE.shape;refine kH H (Rf qp rfl (Rf uj rfl ?_));clear H;intro a H;refine bK uD 3 (vs:=[_]) H wn rfl ?_;clear H;intro w H;refine kH H (Kn eU (SC (Rd rfl (Rm rfl ?_))));clear H eU;intro a H;refine aB ?_;refine dJ ((k+1,_,xs++h.marks.bJ[k].cells,ain,ZB)) (by exact (H.fG (Pl:=[_,_,_,_]) (eH:=[_,_]) [2,3] (by decide) rfl).sub ⟨rfl,rfl,rfl,rfl,rfl,rfl,rfl,rfl,ay⟩) ?_
      (try dsimp only);exact ⟨by omega,by rw [kg hk2,List.filter_append,List.filter_cons_of_pos (by simp_all),List.filter_nil,jM];exact aeE,by rw [kg hk2,List.filter_append,List.filter_cons_of_pos (by simp_all),List.filter_nil,lW];exact (fQ.mono QC).snoc (abH _ _) rfl,fun b o h=>QC b o (hgm b o h)⟩
    intro zL a H
    try have p75:=dF zL
    refine kP H (Kc eU (SC (Rd rfl (Rm rfl ?_))));clear H eU;intro a H;refine aB ?_;refine dJ ((k+1,v,xs,Ld,ZB)) (by exact (H.fG (Pl:=[_,_,_]) (eH:=[_,_]) [1,2] (by decide) rfl).sub ⟨rfl,rfl,rfl,rfl,rfl,rfl,rfl,rfl,ay⟩) ?_
    (try dsimp only);exact ⟨by omega,by rw [kg hk2,List.filter_append,List.filter_cons_of_neg (by simp_all),List.filter_nil,iF];exact hrw,by rw [kg hk2,List.filter_append,List.filter_cons_of_neg (by simp_all),List.filter_nil,iF];exact fQ.mono QC,fun b o h=>QC b o (hgm b o h)⟩
  intro h68 a H
  try have p68:=dF h68
  obtain rfl:k=h.marks.bJ.length:=by omega
  rw [zF] at hrw fQ;obtain ⟨Gr,hmr,hdr,H⟩:=St.qG (Li:=[_,_]) H hrw (rows:=(h.marks.bJ.filter fun x=>!rej x.rev).map gJ.dat) (by simp) fQ;obtain ⟨rA,rn,rc,rfl⟩:=hdr.form;(try dsimp only [lca,bM] at H);have hgr:∀ b o,gk b=some o->Gr b=some o:=fun b o h=>hmr b o (hgm b o h);replace q2:=fun j v hj=>aF hgr (q2 j v hj);replace q8:=fun j v hj=>aF hgr (q8 j v hj);replace q6:=aF hgr q6;replace q7:=aF hgr q7;replace xS:=xS.mono hgr;replace yP:=yP.mono hgr;replace hh:=hh.mono hgr;replace Ig:=Ig.mono hgr;refine eu ?_;refine bH _ _ ?_;clear bH;refine bR (fun _ fC=>?_);refine dz (fun _ gX=>?_);refine aV dW (cs:=[.slice pA pn pc,vi h.marks.ins,vi h.marks.move,.slice dA h.marks.bJ.length dc,.slice lA ln lc]) H wn rfl rfl (fun j v hj=>H.hp.aI (q2 j v hj)) rfl ?_;clear H;intro a H;refine s_call alB H wn rfl (atb _ _ H.ro h _ _ _ hh (by omega)) rfl ?_;clear H;rintro v86 G86 a w ⟨bg,rfl,hit⟩ Fb H;obtain ⟨all,hall⟩:∃ L,L=rC h.marks.layers.length h.marks.layers:=⟨_,rfl⟩;rw [<- hall] at hit;obtain ⟨hfl,hne⟩:=Hl h.marks.layers.length h.marks.layers (eP _);rw [<- hall] at hfl hne;have hsum:∀ k,k<=all.length->k<=((all.take k).flatMap Prod.snd).length∧((all.take k).flatMap Prod.snd).length<=h.marks.layers.length:=aoT hfl hne;replace q2:=fun j v hj=>aF Fb (q2 j v hj);replace q6:=aF Fb q6;replace q7:=aF Fb q7;replace xS:=xS.mono Fb;replace yP:=yP.mono Fb;replace hh:=hh.mono Fb;replace Ig:=Ig.mono Fb;replace hdr:=hdr.mono Fb;refine gX _ _ ?_;clear gX;refine EJ ?_;skip;refine ajg (ι:=ah × List aL × ah × List bZ × List ah × OL) (κ:=Empty) (Lc:=[(_,_)]) (fun (k:Nat) (gh:ah × List aL × ah × List bZ × List ah × OL)=>[(b9,.cells #[gh.1,vi io,vi mo,.slice rA rn rc,gh.2.2.1] 29 (0,0))]) (fun (k:Nat) (gh:ah × List aL × ah × List bZ × List ah × OL)=>gh.2.2.2.2.2) (fun (k:Nat) (gh:ah × List aL × ah × List bZ × List ah × OL) (g:GH)=>ak g (.sl 2 (gh.2.1.map aL.dat)) gh.1∧dR 161 4 gh.2.2.1 gh.2.2.2.1.length gh.2.2.2.2.1 gh.2.2.2.2.2∧dK g 4 (gh.2.2.2.1.map bZ.dat) gh.2.2.2.2.1∧ug acc rej h.props (all.drop k) (gh.2.1,gh.2.2.2.1)=ug acc rej h.props all (h.props,[])∧gh.2.1.length<=h.props.length+k∧gh.2.2.2.1.length<=((all.take k).flatMap Prod.snd).length) (fun x=>x.elim) (fun x=>x.elim) (fun x=>x.elim) (fun x=>x.elim) ((.slice qA qn qc,h.props,.slice none 0 0,[],[],[])) (by exact H.NG (A:=[_,_])) rfl acg (hit) (fun _ _ h=>h) rfl (fun k args g h=>by obtain ⟨_,_,_,rfl,_⟩:=adf h;rfl) (fun k i G G' hm h=>⟨h.1.mono hm,h.2.1,h.2.2.1.mono hm,h.2.2.2⟩) (fun x=>x.elim) (⟨Ig,dR.nil,dK.nil,rfl,eP _,lu _⟩) ?_ ?_ ?_
  · clear H;intro l16 IL Dr bk k args gh ql w16 F16 B16 a aqJ nA hI aqb aqU azi H;obtain ⟨pv,ps,vy,ly,xs,Ly⟩:=gh;dsimp only at hI H;obtain ⟨hk,tA,tc,rfl,hlr⟩:=adf aqJ;dsimp only [BZ,List.cons_append,List.nil_append] at H;obtain ⟨hpv,hrw,fQ,hdc,hpl,hll⟩:=hI;obtain ⟨pvA,pvn,pvc,rfl⟩:=hpv.form;obtain ⟨vyA,vyc,rfl,-,-⟩:=hrw.shape;obtain ⟨key,hkey⟩:∃ x,x=all[k].1:=⟨_,rfl⟩;obtain ⟨ls,hls⟩:∃ x,x=all[k].2:=⟨_,rfl⟩;rw [<- hls] at hlr;rw [<- hkey,<- hls] at H;have hs1:=hsum k (by omega);have hs2:=hsum (k+1) (by omega)
    have hs3:((all.take (k+1)).flatMap Prod.snd).length=((all.take k).flatMap Prod.snd).length+ls.length:=by rw [kg hk,List.flatMap_append,jM,hls];simp
    have Ij:=axf h.props key ls;refine kP H (SR fun _ fM=>aj fM rfl (SC (Ra rfl ?_)));clear H fM;intro a H;refine aB ?_;refine aqb _ _ _ _ _ _ (by exact H) ?_;clear H;intro w H;refine kP H (SB (SR fun _ iI=>aj iI rfl (SQ fun _ jH=>SR fun _ mK=>Rm rfl (Rl kW rfl (Rm rfl (Kz mK (SB ?_)))))));clear H iI mK;intro a H;skip;refine fF (ι:=Nat × ah × List ah × OL × GH) (Tc:=[(2,_),(6,_),(7,_),(9,_),(12,_),(13,_),(89,_),(90,_)]) (Lc:=[(_,_),(_,_),(_,_)]) (fun gh=>[(14,gh.2.1),(91,vi gh.1)]) (fun gh=>[]++((bk++Ly)++gh.2.2.2.1)) (fun gh=>gh.2.2.2.2) (fun gh=>gh.1<=ls.length∧dR 242 2 gh.2.1 gh.1 gh.2.2.1 gh.2.2.2.1∧dK gh.2.2.2.2 2 ((ls.take gh.1).map fun y=>N7 (y.before,y.had)) gh.2.2.1∧(∀ b o,ql b=some o->gh.2.2.2.2 b=some o)) (fun gh=>ls.length - gh.1) ((0,.slice none 0 0,[],[],ql)) (by exact (H.NG (A:=[_,_,_])).sub ⟨rfl,rfl,rfl,rfl,rfl,rfl,rfl,rfl,rfl,rfl,ay⟩) ?_ ?_
    · exact Jt
    clear H;rintro ⟨i,vs,xs2,Ls,g2⟩ a w hI H;dsimp only at hI H;obtain ⟨hi,hrw2,zO,lT⟩:=hI;dsimp only [lca,bM] at H;refine kP H (SR fun _ mD=>Rc rfl (Kz mD (SQ fun _ kY=>Cd rfl ?_ ?_))) <;> clear H mD
    · intro Hr a H
      try have KL:=dT Hr
      have hi2:i < ls.length:=by omega
      obtain ⟨bl,ol,rfl,hrow⟩:=Fv (hlr.mono lT) hi2;refine kP H (Kc kY (SQ fun _ om=>SB (SR fun _ oq=>Ri kW jB rfl rfl ?_)));clear H kY;intro a H;refine aV jB (cs:=[_,_,_,_]) H wn rfl rfl (fun j v hj=>H.hp.aI (hrow j v hj)) rfl ?_;clear H;intro a H;refine dP jB H wn rfl ?_;clear H;intro b16 a w adz H;refine bK jB 0 (vs:=[_,_,_,_]) H wn rfl ?_;clear H;intro w H;refine oq _ _ ?_;clear oq;refine kP H (SC (Rm rfl ?_));clear H;intro a H;refine aV jB (cs:=[_,_,_,_]) H wn rfl rfl (H.hp.cB 0 rfl rfl) rfl ?_;clear H;intro a H;refine s_call alC H wn rfl (aiP _ _ H.ro ls[i]) rfl ?_;clear H;rintro v97 G97 a w rfl adZ H;refine iV La tL [_,_] [_,_] H wn rfl rfl rfl rfl rfl (by intro i q h;match i,h with|0,h=>exact h|n+1,h=>simp at h) rfl rfl ?_;clear H;intro b98 a w ayL H;refine oZ (Li:=[_,_,_,_,_]++(bk++Ly)) (Lo:=Ls) (news:=[vi ls[i].before,.bool ls[i].had]) La tL rfl rfl (St.un (A:=[_,_,_,_,_]) H) wn rfl rfl hrw2 rfl (H.hp.cB 0 rfl rfl) rfl (by omega) (by omega) rfl ?_;clear H;intro v99 aiw a w arx H;have H:=H.assoc;dsimp only [lca,bM] at H;refine kH H (bG om rfl (SC (Rd rfl (Rm rfl ?_))));clear H om;intro a H;refine aB ?_;refine dJ ((i+1,v99,xs2++[vi ls[i].before,.bool ls[i].had],aiw,G97)) (by exact (H.fG (Pl:=[_,_,_,_,_]) (eH:=[_,_,_]) [2,3,4] (by decide) rfl).sub ⟨rfl,rfl,rfl,rfl,rfl,rfl,rfl,rfl,rfl,rfl,ay⟩) ?_
      (try dsimp only);exact ⟨by omega,arx,by rw [kg hi2,lW];exact (zO.mono adZ).snoc (ahe _ (ls[i].before,ls[i].had)) rfl,fun b o h=>adZ b o (lT b o h)⟩
    intro Hr a H
    try have KL:=dF Hr
    obtain rfl:i=ls.length:=by omega
    rw [zF] at zO;refine eu ?_;refine jH _ _ ?_;clear jH;refine kP H (SR fun _ kZ=>Rm rfl ?_);clear H;intro a H;refine aV dW (cs:=[.slice pA pn pc,vi h.marks.ins,vi h.marks.move,.slice dA h.marks.bJ.length dc,.slice lA ln lc]) H wn rfl rfl (fun j v hj=>H.hp.aI (aF lT (aF nA (q2 j v hj)))) rfl ?_;clear H;intro a H;refine kH H (Rm rfl ?_);clear H;intro a H;refine s_call alD H wn rfl (auj _ _ H.ro h _ _ _ (hh.mono fun b o h=>lT b o (nA b o h)) key (by omega)) rfl ?_;clear H;rintro axF ayg a w rfl adR H;refine iV La tL [_,_] [_,_] H wn rfl rfl rfl rfl rfl (by intro i q h;match i,h with|0,h=>exact h|n+1,h=>simp at h) rfl rfl ?_;clear H;intro ayp a w ayw H;refine oZ (Li:=[_,_,_,_]++(bk++Ly)) (Lo:=Ls) (news:=[vi (jE h.props key).1,.bool (jE h.props key).2]) La tL rfl rfl (St.un (A:=[_,_,_,_]) H) wn rfl rfl hrw2 rfl (H.hp.cB 0 rfl rfl) rfl (by omega) (by omega) rfl ?_;clear H;intro azw ayn a w arn H;obtain ⟨Gs,hms,QO,H⟩:=St.qG (Li:=[_,_,_,_]++(bk++Ly)) H arn (rows:=(qg h.props key ls).map N7) (by simp [qg]) (by have h1:=(zO.mono adR).snoc (ahe _ (jE h.props key)) rfl;simpa [qg,lW,List.map_map,Function.comp_def] using h1);dsimp only [lca,bM] at H;obtain ⟨sA,sc,rfl,-,-,-⟩:=QO.slice;rw [bQ,Ij] at QO H;have hgs:∀ b o,ql b=some o->Gs b=some o:=fun b o h=>hms b o (adR b o (lT b o h));refine kH H (aj kZ rfl (SR fun _ qm=>aj qm rfl (SQ fun _ qD=>SR fun _ qP=>Rm rfl (Rl kW rfl (Rm rfl (Kz qP (SB ?_)))))));clear H kZ qm qP;intro a H;skip;refine fF (ι:=Nat × Nat × GH) (Tc:=[(6,_),(7,_),(9,_),(12,_),(13,_),(14,_),(107,_),(108,_)]) (Lc:=[(_,_),(_,_),(_,_),(_,_)]) (fun gh=>[(17,vi gh.2.1),(109,vi gh.1)]) (fun gh=>[]++(bk++Ly)) (fun gh=>gh.2.2) (fun gh=>gh.1<=ls.length∧gh.2.1<=gh.1∧iZ acc (ls.drop gh.1) gh.1 gh.2.1=iZ acc ls 0 0∧(∀ b o,Gs b=some o->gh.2.2 b=some o)) (fun gh=>ls.length - gh.1) ((0,0,Gs)) (by exact H.sub ⟨rfl,rfl,rfl,rfl,rfl,rfl,rfl,rfl,rfl,rfl,ay⟩) ?_ ?_
    · exact ⟨by omega,eP _,by rw [wH],fun _ _ h=>h⟩
    clear H;rintro ⟨i2,c2,g3⟩ a w hI H;dsimp only at hI H;obtain ⟨hi3,hc3,hfs,xU⟩:=hI;dsimp only [lca,bM] at H;refine kP H (SR fun _ rR=>Rc rfl (Kz rR (SQ fun _ qQ=>Cd rfl ?_ ?_))) <;> clear H rR
    · intro VD a H
      try have atS:=dT VD
      have hi4:i2 < ls.length:=by omega
      obtain ⟨bl,ol,rfl,hrow⟩:=Fv (hlr.mono fun b o h=>xU b o (hgs b o h)) hi4;refine kP H (Kc qQ (SQ fun _ rT=>SB (SR fun _ vD=>Rm rfl (Ri kW jB rfl rfl ?_))));clear H qQ;intro a H;refine aV jB (cs:=[_,_,_,_]) H wn rfl rfl (fun j v hj=>H.hp.aI (hrow j v hj)) rfl ?_;clear H;intro a H;refine dP jB H wn rfl ?_;clear H;intro b19 a w apQ H;refine kH H (Ra rfl ?_);clear H;intro a H;refine bK jB 0 (vs:=[_,_,_,_]) H wn rfl ?_;clear H;intro w H;refine vD _ _ ?_;clear vD;refine kP H (SR fun _ sN=>Rg CY rfl (aF xU (aF hgs (aF nA q6))) (bO P9 aG 0 rfl rfl ?_));clear H;intro a H;refine jJ H wn rfl rfl (xS _ _ (fun b o h=>xU b o (hgs b o (nA b o h))) H.ro ls[i2].rev) rfl ?_;clear H;rintro v117 Zp a w rfl adS H;refine sN _ _ ?_;clear sN;refine jr H rfl ?_ ?_
      · intro VF
        try have atV:=dT VF
        refine kP H (SC (Rm rfl (Rd rfl (bG rT rfl (SC (Rd rfl (Rm rfl ?_)))))));clear H rT;intro a H;refine aB ?_;refine dJ ((i2+1,i2+1,Zp)) (by exact (H.fG (Pl:=[_,_,_,_,_]) (eH:=[_,_,_,_]) [1,2,3,4] (by decide) rfl).sub ⟨rfl,rfl,rfl,rfl,rfl,rfl,rfl,rfl,rfl,rfl,ay⟩) ?_
        (try dsimp only);exact ⟨by omega,eP _,by rw [rU hi4,iZ,aD (by assumption)] at hfs;exact hfs,fun b o h=>adS b o (xU b o h)⟩
      intro VF
      try have atV:=dF VF
      refine kP H (Kc rT (SC (Rd rfl (Rm rfl ?_))));clear H rT;intro a H;refine aB ?_;refine dJ ((i2+1,c2,Zp)) (by exact (H.fG (Pl:=[_,_,_,_,_]) (eH:=[_,_,_,_]) [1,2,3,4] (by decide) rfl).sub ⟨rfl,rfl,rfl,rfl,rfl,rfl,rfl,rfl,rfl,rfl,ay⟩) ?_
      (try dsimp only);exact ⟨by omega,by omega,by rw [rU hi4,iZ,av (by simp_all)] at hfs;exact hfs,fun b o h=>adS b o (xU b o h)⟩
    intro VD a H
    try have atS:=dF VD
    obtain rfl:i2=ls.length:=by omega
    rw [List.drop_length,iZ] at hfs;have hgt:∀ b o,ql b=some o->g3 b=some o:=fun b o h=>xU b o (hgs b o h);obtain ⟨bs,os,rfl,hr2⟩:=ahh (QO.mono xU) (k:=c2) (by rw [Ij];omega);obtain ⟨Rw,hn0⟩:∃ s,s=(qg h.props key ls)[c2]'(by rw [Ij];omega):=⟨_,rfl⟩;rw [<- hn0] at hr2
    have hgd:(qg h.props key ls).getD c2 (0,false)=Rw:=by rw [hn0,List.getD_eq_getElem?_getD,eD (show c2 < (qg h.props key ls).length by rw [Ij];omega)];rfl
    refine eu ?_;refine qD _ _ ?_;clear qD;refine kP H (SR fun _ xB=>Rm rfl (Rm rfl ?_));clear H;intro a H;refine zi La tL c2 H wn rfl rfl rfl (by omega) rfl ?_;clear H;intro a H;refine aV tL (cs:=[vi Rw.1,.bool Rw.2]) H wn rfl rfl (fun j v hj=>H.hp.aI (hr2 j v hj)) rfl ?_;clear H;intro a H;refine dP tL H wn rfl ?_;clear H;intro b20 a w ayy H;refine bK tL 0 (vs:=[_,_]) H wn rfl ?_;clear H;intro w H;refine xB _ _ ?_;clear xB;refine kP H (SQ fun _ BH=>SR fun _ BI=>Rm rfl (aj BI rfl (SB ?_)));clear H BI;intro a H;skip;refine fF (ι:=Nat × (Int × Bool) × ah × List bZ × List ah × OL × GH) (Tc:=[(7,_),(9,_),(12,_),(13,_),(14,_),(20,_)]) (Lc:=[(_,_),(_,_),(_,_)]) (fun gh=>[(21,vi gh.1)]) (fun gh=>[(b20,.cells #[vi gh.2.1.1,.bool gh.2.1.2] 242 (0,0)),(b9,.cells #[.slice pvA pvn pvc,vi io,vi mo,.slice rA rn rc,gh.2.2.1] 29 (0,0))]++(bk++gh.2.2.2.2.2.1)) (fun gh=>gh.2.2.2.2.2.2) (fun gh=>c2<=gh.1∧gh.1<=ls.length∧dR 161 4 gh.2.2.1 gh.2.2.2.1.length gh.2.2.2.2.1 gh.2.2.2.2.2.1∧dK gh.2.2.2.2.2.2 4 (gh.2.2.2.1.map bZ.dat) gh.2.2.2.2.1∧gh.2.2.2.1++(uy rej (qg h.props key ls) (ls.drop gh.1) gh.1 gh.2.1).1=ly++(lY acc rej h.props key ls).1∧(uy rej (qg h.props key ls) (ls.drop gh.1) gh.1 gh.2.1).2=(lY acc rej h.props key ls).2∧gh.2.2.2.1.length<=ly.length+gh.1∧(∀ b o,g3 b=some o->gh.2.2.2.2.2.2 b=some o)) (fun gh=>ls.length - gh.1) ((c2,Rw,.slice vyA ly.length vyc,ly,xs,Ly,g3)) (by exact (H.fG (Pl:=[_,_,_,_,_]) (eH:=[_,_,_,_,_]) [1,2,3,0,4] (by decide) rfl).sub ⟨rfl,rfl,rfl,rfl,rfl,rfl,rfl,ay⟩) ?_ ?_
    · exact ⟨eP _,by omega,hrw,fQ.mono hgt,by rw [lY,<- hfs,hgd],by rw [lY,<- hfs,hgd],by show ly.length<=ly.length+c2;omega,fun _ _ h=>h⟩
    clear H;rintro ⟨i3,now,vy3,D8,Zd,TF,g4⟩ a w hI H;dsimp only at hI H;obtain ⟨hi5,hi6,hrw3,Wt,hq1,hq2,hq3,Qz⟩:=hI;obtain ⟨SG,SH,rfl,-,-⟩:=hrw3.shape;have hgu:∀ b o,ql b=some o->g4 b=some o:=fun b o h=>Qz b o (hgt b o h);dsimp only [lca,bM] at H;refine kP H (SQ fun _ qE=>SR fun _ Dg=>Rm rfl (Rm rfl (Rl kW rfl (Rc rfl (Kz Dg (Cd rfl ?_ ?_)))))) <;> clear H Dg
    · intro VG a H
      try have atX:=dT VG
      have hi7:i3 < ls.length:=by omega
      obtain ⟨bl,ol,rfl,hrow⟩:=Fv (hlr.mono hgu) hi7;rw [rU hi7,uy] at hq1 hq2;refine kP H (Kc qE (SQ fun _ BJ=>SB (SQ fun _ F3=>SQ fun _ Ez=>?_)));clear H qE;intro a H;refine dI hmx [[],[],[],[1,2],[1,2,3],ra 1 4,ra 0 6] [6] (by kernel_rfl) [_,_,_,(aK bl (ol+i3*4)),_,_] H (aC (X0 rfl fun hG=>Rg CY rfl (aF hG (aF hgu (aF nA q7)))) (Z0 rfl (Rm rfl)) (Z0 rfl (Rm rfl)) ?_ (bP (Z1 3 135 rfl (Rf P9 rfl)) (bP (X1 4 136 rfl fun hG=>Rg aG rfl (aF hG (hrow 0 _ rfl))) (bP (bU rfl) dH)))) ?_
      · refine dO 1 133 2 134 rfl rfl fun _ a w G1 hG HT H fin=>?_;refine zi kW jB i3 H wn rfl rfl rfl (by omega) rfl ?_;clear H;intro a H;exact dZ
      clear H;intro a w G Ht H hv;have H:=H.aN (hv 0 132 rfl rfl) rfl;have H:=H.aN (hv 5 137 rfl rfl) rfl;clear hv;refine jJ H wn rfl rfl (yP _ _ (fun b o h=>Ht b o (hgu b o (nA b o h))) H.ro ls[i3].rev) rfl ?_;clear H;rintro v138 aik a w rfl Kj H;refine aB ⟨rfl,?_⟩;refine Ez _ _ ?_;clear Ez;refine jr H rfl ?_ ?_
      · intro VH
        try have atZ:=dT VH
        refine eu ?_;refine BJ _ _ ?_;clear BJ;refine kP H (SC (Rm rfl (Rd rfl (Ra rfl ?_))));clear H;intro a H;refine aB ?_;refine dJ ((i3+1,now,.slice SG D8.length SH,D8,Zd,TF,aik)) (by exact H.sub ⟨rfl,rfl,rfl,rfl,rfl,rfl,rfl,ay⟩) ?_
        (try dsimp only);exact ⟨by omega,by omega,hrw3,Wt.mono fun b o h=>Kj b o (Ht b o h),by rw [aD (by assumption)] at hq1;exact hq1,by rw [aD (by assumption)] at hq2;exact hq2,by omega,fun b o h=>Kj b o (Ht b o (Qz b o h))⟩
      intro VH
      try have atZ:=dF VH
      rw [av (by simp_all)] at hq1 hq2;refine iG ?_;refine F3 _ _ ?_;clear F3;refine bR (fun _ F4=>?_)
      have aes:∀ (bq dh:Nat) (v:ah) (G G':GH),(∀ k o,G k=some o->G' k=some o)->(fun (bq dh:Nat) (v:ah) (G:GH)=>match dh with|0=>v=(aK b9 1)|1=>v=(aK b9 4)|2=>v=.slice SG D8.length SH|3=>v=.slice (some ⟨bl,ol,none⟩) ls.length tc|4=>v=vi i3|5=>v=(aK bl (ol+i3*4))|6=>v=.agg ls[i3].cells.toArray|7=>v=IU now|8=>v=.agg (bZ.cells ⟨ls[i3].rev,ls[i3].key,now.1,now.2⟩).toArray|9=>v=.slice (some ⟨bq,0,none⟩) 1 1|_=>True) bq dh v G->(fun (bq dh:Nat) (v:ah) (G:GH)=>match dh with|0=>v=(aK b9 1)|1=>v=(aK b9 4)|2=>v=.slice SG D8.length SH|3=>v=.slice (some ⟨bl,ol,none⟩) ls.length tc|4=>v=vi i3|5=>v=(aK bl (ol+i3*4))|6=>v=.agg ls[i3].cells.toArray|7=>v=IU now|8=>v=.agg (bZ.cells ⟨ls[i3].rev,ls[i3].key,now.1,now.2⟩).toArray|9=>v=.slice (some ⟨bq,0,none⟩) 1 1|_=>True) bq dh v G':=by
        intro bq dh v G G' hm h
        match dh,h with
        | 0,h=>exact h
        | 1,h=>exact h
        | 2,h=>exact h
        | 3,h=>exact h
        | 4,h=>exact h
        | 5,h=>exact h
        | 6,h=>exact h
        | 7,h=>exact h
        | 8,h=>exact h
        | 9,h=>exact h
        | 10,h=>exact trivial
        | 11,h=>exact trivial
        | 12,h=>exact trivial
        | 13,h=>exact trivial
        | _+14,h=>exact trivial
      refine aiY (hmx) [[],[0],[0,1],[],[],[3,4],[3,4,5],[],ra 3 5,ra 3 6,ra 0 10,ra 0 11,ra 0 12,ra 0 13] (ra 10 4) (by kernel_rfl) (by kernel_rfl) 9 (by decide) (.cells #[vi ls[i3].rev,vi ls[i3].key,vi now.1,.bool now.2] 161 (0,0)) (fun (bq dh:Nat) (v:ah) (G:GH)=>match dh with|0=>v=(aK b9 1)|1=>v=(aK b9 4)|2=>v=.slice SG D8.length SH|3=>v=.slice (some ⟨bl,ol,none⟩) ls.length tc|4=>v=vi i3|5=>v=(aK bl (ol+i3*4))|6=>v=.agg ls[i3].cells.toArray|7=>v=IU now|8=>v=.agg (bZ.cells ⟨ls[i3].rev,ls[i3].key,now.1,now.2⟩).toArray|9=>v=.slice (some ⟨bq,0,none⟩) 1 1|_=>True) (fun _ _ i v G hi h=>by
        (iterate 14 (rcases i with _|i;(first|exact h|exact absurd rfl hi)));exact trivial) H ?_ ?_ ?_ (by kernel_rfl)
      · clear H;refine aC ?_ ?_ ?_ ?_ (aC ?_ ?_ ?_ ?_ (aC ?_ ?_ ?_ ?_ (bP ?_ (bP ?_ dH))))
        · intro bq fI aT a w G1 fZ _ _ aP hc hG HT hv;have H:=HT;clear aP;have Hb:=H.full;have H:=Hb;clear hc;refine kH H (Rf qp rfl ?_);clear H;intro a H;refine aB ⟨rfl,?_⟩;exact EH
        · intro bq fI aT a w G1 fZ _ _ aP hc hG HT hv;have H:=HT;clear aP;have H:=H.aN (hv 0 139 (hc 0 (by decide)) rfl) rfl;have Hb:=H.full;have H:=Hb;clear hc;refine kH H (Rf Av rfl ?_);clear H;intro a H;refine aB ⟨rfl,?_⟩;exact EH
        · intro bq fI aT a w G1 fZ _ _ aP hc hG HT hv;have H:=HT;clear aP;have H:=H.aN (hv 1 140 (hc 1 (by decide)) rfl) rfl;have Hb:=H.full;have H:=Hb;clear hc;refine rO Bu H wn rfl (H.hp.CG (fZ _ (gV _ (gV _ (gV _ (gV _ fE))))) rfl) rfl ?_;clear H;intro a H;refine aB ⟨rfl,?_⟩;exact EH
        · intro bq fI aT a w G1 fZ _ _ aP hc hG HT hv;have H:=HT;clear aP;have Hb:=H.full;have H:=Hb;clear hc;refine kH H (Rm rfl ?_);clear H;intro a H;refine aB ⟨rfl,?_⟩;exact EH
        · intro bq fI aT a w G1 fZ _ _ aP hc hG HT hv;have H:=HT;clear aP;have Hb:=H.full;have H:=Hb;clear hc;refine kH H (Rm rfl ?_);clear H;intro a H;refine aB ⟨rfl,?_⟩;exact EH
        · intro bq fI aT a w G1 fZ _ _ aP hc hG HT hv;have H:=HT;clear aP;have H:=H.aN (hv 3 142 (hc 3 (by decide)) rfl) rfl;have H:=H.aN (hv 4 143 (hc 4 (by decide)) rfl) rfl;have Hb:=H.full;have H:=Hb;clear hc;refine zi kW jB i3 H wn rfl rfl rfl (by omega) rfl ?_;clear H;intro a H;refine aB ⟨rfl,?_⟩;exact EH
        · intro bq fI aT a w G1 fZ _ _ aP hc hG HT hv;have H:=HT;clear aP;have H:=H.aN (hv 5 144 (hc 5 (by decide)) rfl) rfl;have Hb:=H.full;have H:=Hb;clear hc;refine aV jB (cs:=ls[i3].cells) H wn rfl rfl (fun j v hj=>H.hp.aI (aF hG (aF Kj (aF Ht (hrow j v hj))))) rfl ?_;clear H;intro a H;refine aB ⟨rfl,?_⟩;exact EH
        · intro bq fI aT a w G1 fZ _ _ aP hc hG HT hv;have H:=HT;clear aP;have Hb:=H.full;have H:=Hb;clear hc;refine aV tL (cs:=[vi now.1,.bool now.2]) H wn rfl rfl (fun j v hj=>H.hp.CG (fZ _ (gV _ (gV _ (gV _ fE)))) (by simpa using hj)) rfl ?_;clear H;intro a H;refine aB ⟨rfl,?_⟩;exact EH
        · intro bq fI aT a w G1 fZ _ _ aP hc hG HT hv;have H:=HT;clear aP;have H:=H.aN (hv 6 145 (hc 6 (by decide)) rfl) rfl;have H:=H.aN (hv 7 146 (hc 7 (by decide)) rfl) rfl;have Hb:=H.full;have H:=Hb;clear hc;refine s_call alE H wn rfl (aoN _ _ H.ro ls[i3] now) rfl ?_;clear H;rintro azz ayi a w rfl aoX H;refine aB ⟨rfl,?_⟩;exact uT (by kernel_rfl) (aes bq) rfl rfl HT Hb hG hv aoX (rfl) H
        · intro _ _ _ _ _ _ _ _ hB;exact fV
        · intro _ _ _ _ _ _ _ hB;exact fV
        · intro _ _ _ _ _ _ _ hB;exact fV
        · intro _ _ _ _ _ _ _ hB;exact fV
        intro _ _ _ _ _ _ _ hB;exact fV
      · clear H;intro o_ aT a w G1 oN _ hc hG HT hv;obtain rfl:_=o_:=Option.some.inj oN;clear oN;have H:=HT;have H:=H.aN (hv 0 8 147 (by decide) (hc 8 (by decide)) rfl) rfl;have Hb:=H.full;have H:=Hb;clear hc;refine iV kW jB [_,_,_,_] [_,_,_,_] H wn rfl rfl rfl rfl rfl (by intro i q h;match i,h with|0,h=>exact h|n+1,h=>simp at h) rfl rfl ?_;clear H;intro aam a w ayx H;refine aB ⟨rfl,aam,?_⟩;exact LW
      clear H;intro aam a w G VZ H hv;have H:=H.aN (hv 2 141 rfl rfl) rfl;have H:=H.aN (hv 9 148 rfl rfl) rfl;clear hv;refine oZ (Li:=[_,_,_,_,_,_]++bk) (Lo:=TF) (news:=bZ.cells ⟨ls[i3].rev,ls[i3].key,now.1,now.2⟩) kW jB rfl rfl (St.un (A:=[_,_,_,_,_,_]) H) wn rfl rfl hrw3 rfl (H.hp.cB 0 rfl rfl) rfl (by omega) (by omega) rfl ?_;clear H;intro azA aiB a w aeB H;obtain ⟨aye,ayr,rfl,-,-⟩:=aeB.shape;have H:=H.assoc;dsimp only [lca,bM] at H;refine kH H (Rf qp rfl (Rf Av rfl ?_));clear H;intro a H;refine bK Bu 5 (vs:=[_]) H wn rfl ?_;clear H;intro w H;refine aB ⟨rfl,?_⟩;refine F4 _ _ ?_;clear F4;obtain ⟨_,_,he,hr3⟩:=ahh (QO.mono fun b o h=>VZ b o (Kj b o (Ht b o (Qz b o (xU b o h))))) (k:=i3+1) (by rw [Ij];omega)
      injection he with he
      injection he with e1 e2
      subst e1 e2;obtain ⟨nx,hn1⟩:∃ s,s=(qg h.props key ls)[i3+1]'(by rw [Ij];omega):=⟨_,rfl⟩;rw [<- hn1] at hr3
      have hnx:nx=(qg h.props key ls).getD (i3+1) (0,false):=by rw [hn1,List.getD_eq_getElem?_getD,eD (show i3+1 < (qg h.props key ls).length by rw [Ij];omega)];rfl
      refine kP H (SC (Rm rfl (Rm rfl (Rd rfl ?_))));clear H;intro a H;refine zi La tL (i3+1) H wn rfl rfl (by omega) (by omega) rfl ?_;clear H;intro a H;refine aV tL (cs:=[vi nx.1,.bool nx.2]) H wn rfl rfl (fun j v hj=>H.hp.aI (hr3 j v hj)) rfl ?_;clear H;intro a H;refine bK tL 4 (vs:=[_,_]) H wn rfl ?_;clear H;intro w H;refine kH H (Kn BJ (SC (Rm rfl (Rd rfl (Ra rfl ?_)))));clear H BJ;intro a H;refine aB ?_;refine dJ ((i3+1,nx,_,D8++[⟨ls[i3].rev,ls[i3].key,now.1,now.2⟩],Zd++bZ.cells ⟨ls[i3].rev,ls[i3].key,now.1,now.2⟩,aiB,_)) (by exact (H.fG (Pl:=[_,_,_,_,_,_]) (eH:=[_,_,_,_,_]) [1,2,3,4,5] (by decide) rfl).sub ⟨rfl,rfl,rfl,rfl,rfl,rfl,rfl,ay⟩) ?_
      (try dsimp only);exact ⟨by omega,by omega,by rw [jM];exact aeB,by rw [lW];exact (Wt.mono fun b o h=>VZ b o (Kj b o (Ht b o h))).snoc (asD _ ⟨ls[i3].rev,ls[i3].key,now.1,now.2⟩) rfl,by rw [ko,hnx];exact hq1,by rw [hnx];exact hq2,by rw [jM];show D8.length+1<=_;omega,fun b o h=>VZ b o (Kj b o (Ht b o (Qz b o h)))⟩
    intro VG a H
    try have atX:=dF VG
    obtain rfl:i3=ls.length:=by omega
    rw [List.drop_length,uy] at hq1 hq2;rw [iF] at hq1;have hq4:=Vz acc rej h.props key ls;refine eu ?_;refine BH _ _ ?_;clear BH;refine pV ?_;refine aV dW (cs:=[_,_,_,_,_]) H wn rfl rfl (H.hp.cB 4 rfl rfl) rfl ?_;clear H;intro a H;refine kH H (Rm rfl ?_);clear H;intro a H;refine aV tL (cs:=[_,_]) H wn rfl rfl (H.hp.cB 3 rfl rfl) rfl ?_;clear H;intro a H;refine s_call alF H wn rfl (axR _ _ H.ro ps io mo _ _ _ _ _ _ _ (hpv.mono hgu) key now (by omega)) rfl ?_;clear H;rintro v160 ayj a w ⟨azu,rfl,aek⟩ aqL H;obtain ⟨aif,n160,c160,rfl⟩:=aek.form;refine bK dW 4 (vs:=[_,_,_,_,_]) H wn rfl ?_;clear H;intro w H;refine aB ?_;refine aqU ((.slice aif n160 c160,vB ps key now,_,D8,Zd,TF)) _ _ _ _ _ (by exact H.fG (Pl:=[_,_,_,_,_]) (eH:=[_,_,_]) [1,2,4] (by decide) rfl) ?_;exact ⟨aek,hrw3,Wt.mono aqL,by rw [<- hdc,rU hk,ug,<- hkey,<- hls,<- hq1,<- hq2],by have:=ahO ps key now;show (vB ps key now).length<=_;omega,by show D8.length<=_;rw [hs3,hq1,jM];omega⟩
  · clear H;intro ayf gh ayk a w nA hI H;obtain ⟨pv,ps,vy,ly,xs,Ly⟩:=gh;dsimp only at hI H;dsimp only [lca,bM] at H;obtain ⟨hpv,hrw,fQ,hdc,hpl,hll⟩:=hI;rw [bQ,List.drop_length,ug] at hdc;obtain ⟨pvA,pvn,pvc,rfl⟩:=hpv.form;obtain ⟨vyA,vyc,rfl,-,-⟩:=hrw.shape
    have hdh:iH acc rej h=⟨ps,⟨io,mo,h.marks.bJ.filter fun x=>!rej x.rev,ly⟩⟩:=by unfold iH;rw [<- hall,<- hdc,hio,hmo]
    refine fC _ _ ?_;clear fC;refine dz (fun _ EA=>?_);refine aV dW (cs:=[_,_,_,_,_]) H wn rfl rfl (H.hp.cB 2 rfl rfl) rfl ?_;clear H;intro a H;refine bK dW 1 (vs:=[_,_,_,_,_]) H wn rfl ?_;clear H;intro w H;refine kH H (aj EA rfl ?_);clear H EA;intro a H;refine dw ?_;refine (XB H 0 rfl ?_).1;clear H;intro a w H;dsimp only [List.eraseIdx_cons_succ,List.eraseIdx_cons_zero] at H;refine (fJ H results96 (.cons (mI dW (cs:=[_,_,_,_,_]) H rfl rfl (H.hp.cB 0 rfl rfl)) (.cons (bB H rfl) .nil)) ?_).1
    exact Pv
  intro Dk x;exact x.elim
section
def yD (x:Nat->ah × OL) (m:Nat) (y:ah × OL):Nat->ah × OL:=fun j=>if j=m then y else x j
theorem axu (x:Nat->ah × OL) (m:Nat) (y:ah × OL):yD x m y m=y:=aD rfl
theorem ahy {x:Nat->ah × OL} {m j:Nat} {y:ah × OL} (h:j≠m):yD x m y j=x j:=av h
def rz (ms:List Nat) (S:Nat->Bool) (x:Nat->ah × OL):OL:=ms.flatMap fun m=>bif S m then (x m).2 else []
theorem acV {S:Nat->Bool} {x:Nat->ah × OL} {y:ah × OL} {m:Nat}:∀ {ms:List Nat},m∉ms->rz ms (dQ S m) (yD x m y)=rz ms S x
 | [],_=>rfl
 | k :: ms,h=>by
  have hk:k≠m:=fun e=>h (by simp [e])
  have ih:=acV (S:=S) (x:=x) (y:=y) (ms:=ms) fun hm=>h (gV _ hm)
  unfold rz at ih |-
  rw [List.flatMap_cons,List.flatMap_cons,ih,ahy hk,show dQ S m k=S k from av hk]
theorem acW {S:Nat->Bool} {x:Nat->ah × OL} {y:ah × OL} {m:Nat} (hS:S m=false):∀ {ms:List Nat},ms.Nodup->m∈ms->(y.2++rz ms S x).Perm (rz ms (dQ S m) (yD x m y))
 | k :: ms,hn,hm=>by
  rw [List.nodup_cons] at hn
  by_cases hk:k=m
  ·subst hk
   have e:=acV (S:=S) (x:=x) (y:=y) hn.1
   unfold rz at e |-
   rw [List.flatMap_cons,List.flatMap_cons,e,axu,hS,show dQ S k k=true from aD rfl]
   exact List.Perm.refl _
  ·have ih:=acW (S:=S) (x:=x) (y:=y) hS hn.2 (by
    rcases iy.1 hm with e|h
    ·exact absurd e.symm hk
    ·exact h)
   unfold rz at ih |-
   rw [List.flatMap_cons,List.flatMap_cons,ahy hk,show dQ S m k=S k from av hk,<- ko]
   refine (List.Perm.append_right _ wG).trans ?_
   rw [ko]
   exact List.Perm.append_left _ ih
section
variable {N:Nat} {D:List Deferred} {w0:World} {F:Nat->Prop} {G0 G G1 G2:GH} {L L1 L2:OL} {T Xs:List (Nat × ah)}
variable {r:Option Nat} {P:Program} {Q:Exit->Act->World->Prop} {l:List Oper} {a a':Act} {w w':World}
theorem Um {id:Nat} (ms:List Nat) (hm:P.follows .mixedOrders=true) (bX:List (List Nat)) (B:List Nat) (hk:zJ l bX=true) (hB:yw l bX B=true) (hnd:ms.Nodup) (hms:(ms.all fun m=>Nat.blt m l.length && !B.contains m)=true) (pr:(Nat->ah × OL)->Nat->ah->GH->Prop)
  (hp:∀ m,ms.contains m=true->∀ x y i v G,Nat.beq i m=false->(bX.getD i []).contains m=false->pr x i v G->pr (yD x m y) i v G)
  (H:St N D w0 F G0 G L T a w)
  (hstep:allI (fun i o=>∀ x L' S a w G1,(∀ q,q∈L->q∈L')->B.contains i=false->ms.contains i=false->S i=false->(∀ j∈bX.getD i [],S j=true)->(∀ k o,G k=some o->G1 k=some o)->St N D w0 F G0 G1 L' T a w->(∀ i d,S i=true->eT l i=some d->∃ v,a.tmps[d]?=some v∧pr x i v G1) ->
   WL r P l.toArray (fun e a' w'=>e=.normal∧DX N D w0 F G0 G L' T l (pr x) (dQ S i) a' w') [o] a w) 0 l)
  (hmid:allI (fun m o=>ms.contains m=true->∀ x L' S a w G1,(∀ q,q∈L->q∈L')->S m=false->(∀ j∈bX.getD m [],S j=true)->(∀ k o,G k=some o->G1 k=some o)->St N D w0 F G0 G1 L' T a w->(∀ y i d,i≠m->S i=true->eT l i=some d->∃ v,a.tmps[d]?=some v∧pr (yD x m y) i v G1) ->
   WL r P l.toArray (fun e a' w'=>e=.normal∧∃ y,DX N D w0 F G0 G (y.2++L') T l (pr (yD x m y)) (dQ S m) a' w') [o] a w) 0 l)
  (hend:∀ x a w G1,(∀ k o,G k=some o->G1 k=some o)->St N D w0 F G0 G1 (rz ms (fun _=>true) x++L) T a w->(∀ i d,B.contains i=false->eT l i=some d->∃ v,a.tmps[d]?=some v∧pr x i v G1)->WL r P l.toArray (fun e a w=>e=.normal∧Q .normal a w) (qJ l B) a w):WP r P (.region id l.toArray true) Q a w:=by
 refine Jz hm bX B hk hB (fun S a w=>∃ x,DX N D w0 F G0 G (rz ms S x++L) T l (pr x) S a w)
  ⟨fun _=>(.bool false,[]),DX.perm (L1:=L) ⟨G,fun _ _ h=>h,H.move H.hp.drew,fun _ _ h=>absurd (show false=true from h) (by decide)⟩ (by
   have:∀ ms:List Nat,rz ms (fun _=>false) (fun _=>(.bool false,[]))=[]:=fun ms=>by
    induction ms with
    | nil=>rfl
    | cons k ms ih=>unfold rz at ih |-;rw [List.flatMap_cons,ih];rfl
   rw [this];exact List.Perm.refl _)⟩ ?_ ?_
 ·rintro i o S a w ho hb aP kJ hdesc ⟨x,G1,hG,HS,hv⟩
  have hsub:∀ q,q∈L->q∈rz ms S x++L:=fun q hq=>List.mem_append_right _ hq
  have hno:∀ j,j < l.length->S j=true->(bX.getD j []).contains i=false:=fun j hjl hj=>by
   cases hc:(bX.getD j []).contains i with
   | false=>rfl
   | true =>
    have:=hdesc j hjl (by simpa using hc)
    rw [this] at hj;cases hj
  cases hi:ms.contains i with
  | true =>
   have h:=BX hmid i o ho
   rw [iA] at h
   have h:=h hi x _ S a w G1 hsub aP kJ hG HS fun y j d hj hSj hd=>by
    obtain ⟨v,hv1,hv2⟩:=hv j d hSj hd
    exact ⟨v,hv1,hp i hi x y j v _ (tZ hj) (hno j (vK hd) hSj) hv2⟩
   refine pE (fun e a' w' ⟨he,y,hD⟩=>⟨he,yD x i y,hD.perm ?_⟩) h
   rw [<- ko]
   exact List.Perm.append_right L (acW aP hnd (by simpa using hi))
  | false =>
   have h:=BX hstep i o ho
   rw [iA] at h
   have e:∀ ms:List Nat,i∉ms->rz ms (dQ S i) x=rz ms S x:=fun ms hn=>by
    induction ms with
    | nil=>rfl
    | cons k ms ih =>
     have ih:=ih fun h=>hn (gV _ h)
     unfold rz at ih |-
     rw [List.flatMap_cons,List.flatMap_cons,ih,show dQ S i k=S k from av fun e=>hn (by simp [e])]
   refine pE (fun e' a' w' ⟨he,hD⟩=>⟨he,x,?_⟩) (h x _ S a w G1 hsub hb hi aP kJ hG HS hv)
   rw [e ms (by simpa using hi)]
   exact hD
 ·rintro S a w hall Na ⟨x,G1,hG,HS,hv⟩
  have hS:∀ m∈ms,S m=true:=fun m hmm=>by
   have h:=lq.1 hms m hmm
   rw [ow] at h
   exact hall m (Eq.mp Nat.blt_eq h.1) (by simpa using h.2)
  have e:∀ ms:List Nat,(∀ m∈ms,S m=true)->rz ms S x=rz ms (fun _=>true) x:=fun ms h=>by
   induction ms with
   | nil=>rfl
   | cons k ms ih =>
    have ih:=ih fun m hm=>h m (gV _ hm)
    unfold rz at ih |-
    rw [List.flatMap_cons,List.flatMap_cons,ih,h k fE]
  replace e:=e ms hS
  rw [e] at HS
  exact hend x a w G1 hG HS fun j d hb hd=>hv j d (hall j (vK hd) hb) hd
end
end
section
theorem Vi:aQ 98:=aR func98 rfl
theorem alG:aQ 165:=aR func165 rfl
def Di (fv:ah) (G:GH) (acc rej:Int->Bool):Prop:=∀ (G1:GH) (w1:World),(∀ b o,G b=some o->G1 b=some o)->Hold G1 w1->∀ (h:dN) (p d l:ah),jq G1 h p d l->mW h<=1073741824->sK prog fv [sj h p d l] w1 (bE w1 G1 (sM acc rej h))
theorem Di.mono {fv:ah} {G G':GH} {acc rej:Int->Bool} (hm:∀ b o,G b=some o->G' b=some o) (h:Di fv G acc rej):Di fv G' acc rej:=fun G1 w1 h1=>h G1 w1 fun b o hb=>h1 b o (hm b o hb)
variable {acc rej:Int->Bool}
def eZ (acc rej:Int->Bool) (h:dN):dN:=if lG acc rej h then Bz else iH acc rej h
theorem sM.ans {h:dN} {u:ah} {G:GH} (hd:sM acc rej h u G):∃ pA pn pc dA dn dc lA ln lc,u=.tuple #[.agg #[.slice pA pn pc,vi (eZ acc rej h).marks.ins,vi (eZ acc rej h).marks.move,.slice dA dn dc,.slice lA ln lc],.bool (!decide (lG acc rej h))]∧jq G (eZ acc rej h) (.slice pA pn pc) (.slice dA dn dc) (.slice lA ln lc):=by
 unfold sM at hd
 unfold eZ
 by_cases hg:lG acc rej h
 ·rw [aD hg] at hd |-;obtain ⟨p,d,l,rfl,hh⟩:=hd;obtain ⟨pA,pn,pc,rfl⟩:=hh.props.form;obtain ⟨dA,dn,dc,rfl⟩:=hh.bJ.form;obtain ⟨lA,ln,lc,rfl⟩:=hh.layers.form;exact ⟨pA,pn,pc,dA,dn,dc,lA,ln,lc,by simp [hg],hh⟩
 rw [av hg] at hd |-;obtain ⟨p,d,l,rfl,hh⟩:=hd;obtain ⟨pA,pn,pc,rfl⟩:=hh.props.form;obtain ⟨dA,dn,dc,rfl⟩:=hh.bJ.form;obtain ⟨lA,ln,lc,rfl⟩:=hh.layers.form;exact ⟨pA,pn,pc,dA,dn,dc,lA,ln,lc,by simp [hg],hh⟩
def O4 (fv:ah) (acc rej:Int->Bool) (n:Nat):Prop:=∀ (G:GH) (w0:World),Hold G w0->Di fv G acc rej->∀ (l:List au) (v:ah),ak G (.sl 11 (l.map au.dat)) v->dx l < n ->
 Calls prog 98 #[fv,v] w0 (bE w0 G fun u G'=>ak G' (.sl 11 ((dV acc rej l).map au.dat)) u)
theorem aaH {p:Prop} (h:p:=by
 exact ⟨by omega,by rw [R6 hk2,hone,iF];exact hrw,by rw [R6 hk2,hone,iF];exact fQ.mono qI,fun b o h=>qI b o (hgm b o h)⟩):p:=h
theorem GI {p:Prop} (h:p:=by
 exact GQ HT Hb hG hv (QL bq) H rfl):p:=h
set_option maxHeartbeats 4000000 in
theorem avm {fv:ah} {n:Nat} (ih:O4 fv acc rej n) (hn:n<=536870913) (G:GH) (w0:World) (hG:Hold G w0) (hf:Di fv G acc rej) (l:List aU) (v:ah) (hv:ak G (.sl 6 (l.map aU.dat)) v) (hz:iO l < n) :
  Calls prog 165 #[fv,v] w0 (bE w0 G fun u G'=>ak G' (.sl 6 ((gH acc rej l).map aU.dat)) u):=by
 obtain ⟨A,c,rfl,hc1,hc2,hg⟩:=hv.slice
 have hml:4294967297<=maxLen:=by decide
 have hll:=OD l;rw [bQ] at *;refine eN [(0,_),(1,_)] func165 rfl ntmps165 rfl rfl hG ?_;intro a H;refine kP H (SR fun _ K1=>aj K1 rfl (SR fun _ K2=>aj K2 rfl (SQ fun _ K3=>SR fun _ K4=>Rm rfl (Rl nM rfl (Rm rfl (Kz K4 (SB ?_)))))));clear H K1 K2 K4;intro a H;skip;refine fF (ι:=Nat × ah × List ah × OL × GH) (Tc:=[(0,_),(15,_),(16,_)]) (Lc:=[]) (fun gh=>[(5,gh.2.1),(17,vi gh.1)]) (fun gh=>[]++gh.2.2.2.1) (fun gh=>gh.2.2.2.2) (fun gh=>gh.1<=l.length∧dR 74 6 gh.2.1 (gH acc rej (l.take gh.1)).length gh.2.2.1 gh.2.2.2.1∧dK gh.2.2.2.2 6 ((gH acc rej (l.take gh.1)).map aU.dat) gh.2.2.1∧(∀ b o,G b=some o->gh.2.2.2.2 b=some o)) (fun gh=>l.length - gh.1) ((0,.slice none 0 0,[],[],G)) (by exact H.sub ⟨rfl,rfl,rfl,rfl,rfl,ay⟩) ?_ ?_
 ·exact Jt
 clear H;rintro ⟨k,v,xs,Lo,g⟩ a w hI H;dsimp only at hI H;obtain ⟨hk,hrw,fQ,hgm⟩:=hI;have hrl:=Yn (acc:=acc) (rej:=rej) (l.take k);rw [List.length_take] at hrl;dsimp only [lca,bM] at H;refine kP H (SR fun _ K5=>Rc rfl (Kz K5 (SQ fun _ K6=>Cd rfl ?_ ?_))) <;> clear H K5
 ·intro h18 a H
  try have tH:=dT h18
  have hk2:k < l.length:=by omega
  obtain ⟨b_,o_,pA,pn,pc,dA,dn,dc,yA,yn,yc,cA,cn,cc,rfl,hrow,hhd,hcl⟩:=RZ hk2 hg;replace hrow:=fun j u hj=>aF hgm (hrow j u hj);replace hhd:=hhd.mono hgm;replace hcl:=hcl.mono hgm;have hzr:=SV hk2;have hce:=agy (acc:=acc) (rej:=rej) l[k];refine kP H (Kc K6 (SQ fun _ K7=>SB (SR fun _ K8=>Ri nM jG rfl rfl ?_)));clear H K6;intro a H;refine aV jG (cs:=[_,_,_,_,_,_]) H wn rfl rfl (fun j v hj=>H.hp.aI (hrow j v hj)) rfl ?_;clear H;intro a H;refine dP jG H wn rfl ?_;clear H;intro b7 a w zN H;refine bK jG 0 (vs:=[_,_,_,_,_,_]) H wn rfl ?_;clear H;intro w H;refine K8 _ _ ?_;clear K8;refine kP H (SR fun _ K9=>Rm rfl (Rf GZ rfl ?_));clear H;intro a H;refine aV dW (cs:=[_,_,_,_,_]) H wn rfl rfl (H.hp.cB 0 rfl rfl) rfl ?_;clear H;intro a H;refine jJ H wn rfl rfl (hf _ _ hgm H.ro l[k].head _ _ _ hhd (by omega)) rfl ?_;clear H;rintro v25 OP a w hd25 Cx H;obtain ⟨q1,q2,q3,q4,q5,q6,q7,q8,q9,rfl,aqF⟩:=hd25.ans;refine kH H (Rm rfl ?_);clear H;intro a H;(iterate 2 refine mh H wn rfl rfl rfl ?_;clear H;intro a H);refine dP dW H wn rfl ?_;clear H;intro b8 a w Cr H;refine bK dW 0 (vs:=[_,_,_,_,_]) H wn rfl ?_;clear H;intro w H;refine kH H (aj K9 rfl (SQ fun _ aS=>SR fun _ bH=>Rm rfl (Rn rfl (Kz bH (Cd rfl ?_ ?_))))) <;> clear H K9 bH
  ·intro iB a H
   try have p29:=dT iB
   have hone:nY acc rej l[k]=[]:=by rw [hce,aD (by simpa using iB)]
   have qI:=Cx;refine eu ?_;refine K7 _ _ ?_;clear K7;refine kP H (SC (Rd rfl (Rm rfl ?_)));clear H;intro a H;refine aB ?_;refine dJ ((k+1,v,xs,Lo,_)) (by exact (H.fG (Pl:=[_,_]) (eH:=[]) [] (by decide) rfl).sub ⟨rfl,rfl,rfl,rfl,rfl,ay⟩) ?_
   (try dsimp only);exact aaH
  intro iB a H
  try have p29:=dF iB
  have Ia:¬ lG acc rej l[k].head:=by simpa using iB
  rw [av Ia] at hce;obtain ⟨cA',cc',hcs,aqj,ayO,hgc⟩:=hcl.slice
  injection hcs with e1 e2 e3
  rw [bQ] at e2 aqj;subst e1 e2 e3;have ayP:=OB l[k].cells;refine kP H (Kc aS (SR fun _ bT=>aj bT rfl (SQ fun _ cK=>SR fun _ dB=>bO yN zm 1 rfl rfl (Rl qj rfl (Rm rfl (Kz dB (SB ?_)))))));clear H aS bT dB;intro a H;skip;refine fF (ι:=Nat × ah × List ah × OL × GH) (Tc:=[(0,_),(5,_),(8,_),(15,_),(16,_),(17,_),(31,_),(32,_)]) (Lc:=[(_,_),(_,_)]) (fun gh=>[(10,gh.2.1),(33,vi gh.1)]) (fun gh=>[]++(Lo++gh.2.2.2.1)) (fun gh=>gh.2.2.2.2) (fun gh=>gh.1<=l[k].cells.length∧dR 76 7 gh.2.1 (gB acc rej (l[k].cells.take gh.1)).length gh.2.2.1 gh.2.2.2.1∧dK gh.2.2.2.2 7 ((gB acc rej (l[k].cells.take gh.1)).map aX.dat) gh.2.2.1∧(∀ b o,OP b=some o->gh.2.2.2.2 b=some o)) (fun gh=>l[k].cells.length - gh.1) ((0,.slice none 0 0,[],[],OP)) (by exact (H.NG (A:=[_,_])).sub ⟨rfl,rfl,rfl,rfl,rfl,rfl,rfl,rfl,rfl,rfl,ay⟩) ?_ ?_
  ·exact Jt
  clear H;rintro ⟨i,v2,xs2,Lc,g2⟩ a w hI H;dsimp only at hI H;obtain ⟨hi,hrw2,zO,lT⟩:=hI;have hrl2:=Yl (acc:=acc) (rej:=rej) (l[k].cells.take i);rw [List.length_take] at hrl2;obtain ⟨Oo,Oq,rfl,-,-⟩:=hrw2.shape;dsimp only [lca,bM] at H;refine kP H (SR fun _ eU=>Rc rfl (Kz eU (SQ fun _ eX=>Cd rfl ?_ ?_))) <;> clear H eU
  ·intro fu a H
   try have p34:=dT fu
   have hi2:i < l[k].cells.length:=by omega
   obtain ⟨b2_,o2_,aA,an,ac,gA,gn,gc,uA,un,uc,wA,wn_,wc,rfl,hrow2,WC,WA⟩:=PE hi2 hgc;have hgx:∀ b o,g b=some o->g2 b=some o:=fun b o h=>lT b o (Cx b o h);replace hrow2:=fun j u hj=>aF hgx (hrow2 j u hj);replace WC:=WC.mono hgx;replace WA:=WA.mono hgx;have hzc:=SS hi2;have adD:=agv (acc:=acc) (rej:=rej) l[k].cells[i];refine kP H (Kc eX (SQ fun _ eG=>SB (SR fun _ fC=>Ri qj kE rfl rfl ?_)));clear H eX;intro a H;refine aV kE (cs:=[_,_,_,_,_,_,_]) H wn rfl rfl (fun j v hj=>H.hp.aI (hrow2 j v hj)) rfl ?_;clear H;intro a H;refine dP kE H wn rfl ?_;clear H;intro b12 a w Ka H;refine bK kE 0 (vs:=[_,_,_,_,_,_,_]) H wn rfl ?_;clear H;intro w H;refine fC _ _ ?_;clear fC;refine kP H (SR fun _ gX=>Rm rfl (Rf He rfl ?_));clear H;intro a H;refine aV dW (cs:=[_,_,_,_,_]) H wn rfl rfl (H.hp.cB 0 rfl rfl) rfl ?_;clear H;intro a H;refine jJ H wn rfl rfl (hf _ _ (fun b o h=>hgx b o (hgm b o h)) H.ro l[k].cells[i].head _ _ _ WC (by omega)) rfl ?_;clear H;rintro v41 I9 a w aqp wS H;obtain ⟨r1,r2,r3,r4,r5,r6,r7,r8,r9,rfl,aqG⟩:=aqp.ans;refine kH H (Rm rfl ?_);clear H;intro a H;(iterate 2 refine mh H wn rfl rfl rfl ?_;clear H;intro a H);refine dP dW H wn rfl ?_;clear H;intro b13 a w Qr H;refine bK dW 0 (vs:=[_,_,_,_,_]) H wn rfl ?_;clear H;intro w H;refine kH H (aj gX rfl (SR fun _ fM=>Rm rfl (Kz fM (Cd rfl ?_ ?_)))) <;> clear H gX fM
   ·intro DF a H
    try have p44:=dT DF
    have aeh:¬ lG acc rej l[k].cells[i].head:=by simpa using DF
    have Nb:oH acc rej l[k].cells[i]=[.mk l[k].cells[i].id (eZ acc rej l[k].cells[i].head) (dV acc rej l[k].cells[i].flow)]:=by rw [adD,av aeh,eZ,av aeh]
    have QL:TG (fun (bq:Nat->ah × OL) (dh:Nat) (v:ah) (G:GH)=>match dh with|0=>v=.slice Oo (gB acc rej (l[k].cells.take i)).length Oq|1=>v=(aK b12 0)|2=>v=vi l[k].cells[i].id|3=>v=.agg #[.slice r1 r2 r3,vi (eZ acc rej l[k].cells[i].head).marks.ins,vi (eZ acc rej l[k].cells[i].head).marks.move,.slice r4 r5 r6,.slice r7 r8 r9]|4=>v=fv|5=>v=(aK b12 6)|6=>v=.slice wA wn_ wc|7=>ak G (.sl 11 ((dV acc rej l[k].cells[i].flow).map au.dat)) v|8=>∃ A n c,v=.agg #[vi l[k].cells[i].id,.slice r1 r2 r3,vi (eZ acc rej l[k].cells[i].head).marks.ins,vi (eZ acc rej l[k].cells[i].head).marks.move,.slice r4 r5 r6,.slice r7 r8 r9,.slice A n c]∧ak G (.sl 11 ((dV acc rej l[k].cells[i].flow).map au.dat)) (.slice A n c)|9=>∃ b A n c,v=.slice (some ⟨b,0,none⟩) 1 1∧bq 9=(.slice (some ⟨b,0,none⟩) 1 1,[(b,.cells #[vi l[k].cells[i].id,.slice r1 r2 r3,vi (eZ acc rej l[k].cells[i].head).marks.ins,vi (eZ acc rej l[k].cells[i].head).marks.move,.slice r4 r5 r6,.slice r7 r8 r9,.slice A n c] 76 (0,0))])∧ak G (.sl 11 ((dV acc rej l[k].cells[i].flow).map au.dat)) (.slice A n c)|_=>True):=by intro bq dh v G G' hm h;(iterate 12 (rcases dh with _|dh;(first|exact h|exact ak.mono hm h|exact let ⟨A,n,c,h1,h2⟩:=h;⟨A,n,c,h1,h2.mono hm⟩|exact let ⟨b,A,n,c,h0,h1,h2⟩:=h;⟨b,A,n,c,h0,h1,h2.mono hm⟩)));exact trivial
    refine Um [9] (hmx) [[],[],[1],[],[],[],[5],[4,5,6],ra 1 7,ra 1 8,ra 0 10,ra 0 11] [10,11] (by kernel_rfl) (by kernel_rfl) (by decide) (by kernel_rfl) (fun (bq:Nat->ah × OL) (dh:Nat) (v:ah) (G:GH)=>match dh with|0=>v=.slice Oo (gB acc rej (l[k].cells.take i)).length Oq|1=>v=(aK b12 0)|2=>v=vi l[k].cells[i].id|3=>v=.agg #[.slice r1 r2 r3,vi (eZ acc rej l[k].cells[i].head).marks.ins,vi (eZ acc rej l[k].cells[i].head).marks.move,.slice r4 r5 r6,.slice r7 r8 r9]|4=>v=fv|5=>v=(aK b12 6)|6=>v=.slice wA wn_ wc|7=>ak G (.sl 11 ((dV acc rej l[k].cells[i].flow).map au.dat)) v|8=>∃ A n c,v=.agg #[vi l[k].cells[i].id,.slice r1 r2 r3,vi (eZ acc rej l[k].cells[i].head).marks.ins,vi (eZ acc rej l[k].cells[i].head).marks.move,.slice r4 r5 r6,.slice r7 r8 r9,.slice A n c]∧ak G (.sl 11 ((dV acc rej l[k].cells[i].flow).map au.dat)) (.slice A n c)|9=>∃ b A n c,v=.slice (some ⟨b,0,none⟩) 1 1∧bq 9=(.slice (some ⟨b,0,none⟩) 1 1,[(b,.cells #[vi l[k].cells[i].id,.slice r1 r2 r3,vi (eZ acc rej l[k].cells[i].head).marks.ins,vi (eZ acc rej l[k].cells[i].head).marks.move,.slice r4 r5 r6,.slice r7 r8 r9,.slice A n c] 76 (0,0))])∧ak G (.sl 11 ((dV acc rej l[k].cells[i].flow).map au.dat)) (.slice A n c)|_=>True) (fun m hm x y i v G hi hc h=>by
     have hm:m=9:=by simpa using hm
     rcases hm with rfl
     ·(iterate 12 (rcases i with _|i;(first|exact h|exact absurd hi (by decide)|exact absurd hc (by decide))));exact trivial
     ) H ?_ ?_ ?_
    ·clear H;refine aC ?_ ?_ ?_ ?_ (aC ?_ ?_ ?_ ?_ (aC ?_ ?_ ?_ ?_ dH))
     ·intro bq fI aT a w G1 fZ _ _ aP hc hG HT hv;have H:=HT;clear aP;have Hb:=H.full;have H:=Hb;clear hc;refine kH H (Rm rfl ?_);clear H;intro a H;refine aB ⟨rfl,?_⟩;exact GI
     ·intro bq fI aT a w G1 fZ _ _ aP hc hG HT hv;have H:=HT;clear aP;have Hb:=H.full;have H:=Hb;clear hc;refine kH H (Rf JW rfl ?_);clear H;intro a H;refine aB ⟨rfl,?_⟩;exact GI
     ·intro bq fI aT a w G1 fZ _ _ aP hc hG HT hv;have H:=HT;clear aP;have H:=H.aN (hv 1 46 (hc 1 (by decide)) rfl) rfl;have Hb:=H.full;have H:=Hb;clear hc;refine rO aG H wn rfl (H.hp.CG (fZ _ (gV _ fE)) rfl) rfl ?_;clear H;intro a H;refine aB ⟨rfl,?_⟩;exact GI
     ·intro bq fI aT a w G1 fZ _ _ aP hc hG HT hv;have H:=HT;clear aP;have Hb:=H.full;have H:=Hb;clear hc;refine aV dW (cs:=[.slice r1 r2 r3,vi (eZ acc rej l[k].cells[i].head).marks.ins,vi (eZ acc rej l[k].cells[i].head).marks.move,.slice r4 r5 r6,.slice r7 r8 r9]) H wn rfl rfl (fun j v hj=>H.hp.CG (fZ _ fE) (by simpa using hj)) rfl ?_;clear H;intro a H;refine aB ⟨rfl,?_⟩;exact GI
     ·intro bq fI aT a w G1 fZ _ _ aP hc hG HT hv;have H:=HT;clear aP;have Hb:=H.full;have H:=Hb;clear hc;refine kH H (Rm rfl ?_);clear H;intro a H;refine aB ⟨rfl,?_⟩;exact GI
     ·intro bq fI aT a w G1 fZ _ _ aP hc hG HT hv;have H:=HT;clear aP;have Hb:=H.full;have H:=Hb;clear hc;refine kH H (Rf EO rfl ?_);clear H;intro a H;refine aB ⟨rfl,?_⟩;exact GI
     ·intro bq fI aT a w G1 fZ _ _ aP hc hG HT hv;have H:=HT;clear aP;have H:=H.aN (hv 5 50 (hc 5 (by decide)) rfl) rfl;have Hb:=H.full;have H:=Hb;clear hc;refine rO kV H wn rfl (H.hp.CG (fZ _ (gV _ fE)) rfl) rfl ?_;clear H;intro a H;refine aB ⟨rfl,?_⟩;exact GI
     ·intro bq fI aT a w G1 fZ _ _ aP hc hG HT hv;have H:=HT;clear aP;have H:=H.aN (hv 4 49 (hc 4 (by decide)) rfl) rfl;have H:=H.aN (hv 6 51 (hc 6 (by decide)) rfl) rfl;have Hb:=H.full;have H:=Hb;clear hc;refine s_call Vi H wn rfl (ih _ _ H.ro (hf.mono fun b o h=>hG b o (wS b o (hgx b o (hgm b o h)))) l[k].cells[i].flow _ (WA.mono fun b o h=>hG b o (wS b o h)) (by omega)) rfl ?_;clear H;rintro v52 Zz a w Ic apj H;refine aB ⟨rfl,?_⟩;exact uT (by kernel_rfl) (QL bq) rfl rfl HT Hb hG hv apj (Ic) H
     ·intro bq fI aT a w G1 fZ _ _ aP hc hG HT hv;have H:=HT;clear aP;have H:=H.aN (hv 2 47 (hc 2 (by decide)) rfl) rfl;have H:=H.aN (hv 3 48 (hc 3 (by decide)) rfl) rfl;obtain ⟨u52,arN,Ic⟩:=hv 7 52 (hc 7 (by decide)) rfl;(try dsimp only at Ic);obtain ⟨I5,n52,Jy,rfl⟩:=Ic.form;have H:=H.jC arN;have Hb:=H.full;have H:=Hb;clear hc;refine jF YP [_,_,_,_,_,_,_] H wn rfl rfl rfl rfl ?_;clear H;intro a H;refine aB ⟨rfl,?_⟩;exact uT (by kernel_rfl) (QL bq) rfl rfl HT Hb hG hv (fun _ _ h=>h) (⟨_,_,_,rfl,Ic⟩) H
     ·intro _ _ _ _ _ _ _ _ hB;exact fV
     ·intro _ _ _ _ _ _ _ hB;exact fV
     intro _ _ _ _ _ _ _ hB;exact fV
    ·clear H;refine aC ?_ ?_ ?_ ?_ (aC ?_ ?_ ?_ ?_ (aC ?_ ?_ ?_ ?_ dH))
     ·intro hB;exact fV
     ·intro hB;exact fV
     ·intro hB;exact fV
     ·intro hB;exact fV
     ·intro hB;exact fV
     ·intro hB;exact fV
     ·intro hB;exact fV
     ·intro hB;exact fV
     ·intro hB;exact fV
     ·intro _ bq fI aT a w G1 fZ _ hc hG HT hv;have H:=HT;obtain ⟨u53,Nr,yU⟩:=hv (.bool false,[]) 8 53 (by decide) (hc 8 (by decide)) rfl;(try dsimp only at yU);obtain ⟨Ad,n53,c53,rfl,yU⟩:=yU;have H:=H.jC Nr;have Hb:=H.full;have H:=Hb;clear hc;refine iV qj kE [_,_,_,_,_,_,_] [_,_,_,_,_,_,_] H wn rfl rfl rfl rfl rfl (by intro i q h;match i,h with|0,h=>exact h|n+1,h=>simp at h) rfl rfl ?_;clear H;intro Ca a w adB H;refine aB ⟨rfl,(.slice (some ⟨Ca,0,none⟩) 1 1,[(Ca,.cells #[vi l[k].cells[i].id,.slice r1 r2 r3,vi (eZ acc rej l[k].cells[i].head).marks.ins,vi (eZ acc rej l[k].cells[i].head).marks.move,.slice r4 r5 r6,.slice r7 r8 r9,.slice Ad n53 c53] 76 (0,0))]),?_⟩;exact GR (by kernel_rfl) (QL (yD bq 9 (.slice (some ⟨Ca,0,none⟩) 1 1,[(Ca,.cells #[vi l[k].cells[i].id,.slice r1 r2 r3,vi (eZ acc rej l[k].cells[i].head).marks.ins,vi (eZ acc rej l[k].cells[i].head).marks.move,.slice r4 r5 r6,.slice r7 r8 r9,.slice Ad n53 c53] 76 (0,0))]))) rfl HT Hb hG (fun j e h1 h2 h3=>hv (.slice (some ⟨Ca,0,none⟩) 1 1,[(Ca,.cells #[vi l[k].cells[i].id,.slice r1 r2 r3,vi (eZ acc rej l[k].cells[i].head).marks.ins,vi (eZ acc rej l[k].cells[i].head).marks.move,.slice r4 r5 r6,.slice r7 r8 r9,.slice Ad n53 c53] 76 (0,0))]) j e h1 h2 h3) (fun _ _ h=>h) (⟨Ca,Ad,n53,c53,rfl,rfl,yU⟩) H
     ·intro hB;exact fV
     intro hB;exact fV
    clear H;intro bq a w G MN H hv
    simp only [rz,List.flatMap_cons,List.flatMap_nil,cond_true,iF,ko] at H
    have H:=H.aN (hv 0 45 rfl rfl) rfl;obtain ⟨u54,arO,aem⟩:=hv 9 54 (by decide) rfl;(try dsimp only at aem);obtain ⟨Ca,I5,n52,Jy,rfl,e54,Ic⟩:=aem;have H:=H.jC arO;clear hv;rw [e54] at H;dsimp only [lca,bM] at H;have aex:bD G (aX.dat (.mk l[k].cells[i].id (eZ acc rej l[k].cells[i].head) (dV acc rej l[k].cells[i].flow))) [vi l[k].cells[i].id,.slice r1 r2 r3,vi (eZ acc rej l[k].cells[i].head).marks.ins,vi (eZ acc rej l[k].cells[i].head).marks.move,.slice r4 r5 r6,.slice r7 r8 r9,.slice I5 n52 Jy]:=bD.Q9 (x:=.mk l[k].cells[i].id (eZ acc rej l[k].cells[i].head) (dV acc rej l[k].cells[i].flow)) (aqG.mono MN) Ic;refine oZ (Li:=[_,_,_,_,_]++Lo) (Lo:=Lc) (news:=[vi l[k].cells[i].id,.slice r1 r2 r3,vi (eZ acc rej l[k].cells[i].head).marks.ins,vi (eZ acc rej l[k].cells[i].head).marks.move,.slice r4 r5 r6,.slice r7 r8 r9,.slice I5 n52 Jy]) qj kE rfl rfl (St.un (A:=[_,_,_,_,_]) H) wn rfl rfl hrw2 rfl (H.hp.cB 0 rfl rfl) aex.one (by omega) (by omega) rfl ?_;clear H;intro v55 ail a w aru H;have H:=H.assoc;dsimp only [lca,bM] at H;refine kH H (Ra rfl ?_);clear H;intro a H;refine aB ⟨rfl,?_⟩;refine eG _ _ ?_;clear eG;refine kP H (SC (Rd rfl (Rm rfl ?_)));clear H;intro a H;refine aB ?_;refine dJ ((i+1,v55,xs2++[vi l[k].cells[i].id,.slice r1 r2 r3,vi (eZ acc rej l[k].cells[i].head).marks.ins,vi (eZ acc rej l[k].cells[i].head).marks.move,.slice r4 r5 r6,.slice r7 r8 r9,.slice I5 n52 Jy],ail,_)) (by exact (H.fG (Pl:=[_,_,_,_,_]) (eH:=[_,_]) [3,4] (by decide) rfl).sub ⟨rfl,rfl,rfl,rfl,rfl,rfl,rfl,rfl,rfl,rfl,ay⟩) ?_
    (try dsimp only);exact ⟨by omega,by rw [R3 hi2,Nb,jM];exact aru,by rw [R3 hi2,Nb,lW];exact (zO.mono fun b o h=>MN b o (wS b o h)).snoc aex rfl,fun b o h=>MN b o (wS b o (lT b o h))⟩
   intro DF a H
   try have p44:=dF DF
   have Nb:oH acc rej l[k].cells[i]=[]:=by rw [adD,aD (by simpa using DF)]
   refine kP H (Kc eG (SC (Rd rfl (Rm rfl ?_))));clear H eG;intro a H;refine aB ?_;refine dJ ((i+1,_,xs2,Lc,_)) (by exact (H.fG (Pl:=[_,_,_,_]) (eH:=[_,_]) [2,3] (by decide) rfl).sub ⟨rfl,rfl,rfl,rfl,rfl,rfl,rfl,rfl,rfl,rfl,ay⟩) ?_
   (try dsimp only);exact ⟨by omega,by rw [R3 hi2,Nb,iF];exact hrw2,by rw [R3 hi2,Nb,iF];exact zO.mono wS,fun b o h=>wS b o (lT b o h)⟩
  intro fu a H
  try have p34:=dF fu
  obtain rfl:i=l[k].cells.length:=by omega
  rw [zF] at hrw2 zO hrl2 H;have H:=H.un (A:=[_,_]);obtain ⟨Gr,hmr,hrep,H⟩:=St.qG (Li:=[_,_]++Lo) H hrw2 (rows:=(gB acc rej l[k].cells).map aX.dat) (by simp) zO;have qI:∀ b o,g b=some o->Gr b=some o:=fun b o h=>hmr b o (lT b o (Cx b o h));dsimp only [lca,bM] at H;refine eu ?_;refine cK _ _ ?_;clear cK;refine kP H (SR fun _ iI=>Rm rfl (Rl qj rfl (Rc rfl (Kz iI (Cd rfl ?_ ?_))))) <;> clear H iI
  ·intro jc a H
   try have p59:=dT jc
   have hone:nY acc rej l[k]=[.mk (eZ acc rej l[k].head) (gB acc rej l[k].cells)]:=by rw [hce,dL,eZ,av Ia]
   have aey:bD Gr (aU.dat (.mk (eZ acc rej l[k].head) (gB acc rej l[k].cells))) [.slice q1 q2 q3,vi (eZ acc rej l[k].head).marks.ins,vi (eZ acc rej l[k].head).marks.move,.slice q4 q5 q6,.slice q7 q8 q9,.slice Oo (gB acc rej l[k].cells).length Oq]:=bD.Rb (x:=.mk (eZ acc rej l[k].head) (gB acc rej l[k].cells)) (aqF.mono fun b o h=>hmr b o (lT b o h)) hrep;refine kP H (SC (Rm rfl ?_));clear H;intro a H;refine aV dW (cs:=[_,_,_,_,_]) H wn rfl rfl (H.hp.cB 0 rfl rfl) rfl ?_;clear H;intro a H;refine kH H (Rm rfl ?_);clear H;intro a H;refine jF YK [_,_,_,_,_,_] H wn rfl rfl rfl rfl ?_;clear H;intro a H;refine iV nM jG [_,_,_,_,_,_] [_,_,_,_,_,_] H wn rfl rfl rfl rfl rfl (by intro i q h;match i,h with|0,h=>exact h|n+1,h=>simp at h) rfl rfl ?_;clear H;intro b64 a w ayJ H;refine oZ (Li:=[_,_,_]) (Lo:=Lo) (news:=[.slice q1 q2 q3,vi (eZ acc rej l[k].head).marks.ins,vi (eZ acc rej l[k].head).marks.move,.slice q4 q5 q6,.slice q7 q8 q9,.slice Oo (gB acc rej l[k].cells).length Oq]) nM jG rfl rfl H wn rfl rfl hrw rfl (H.hp.cB 0 rfl rfl) aey.one (by omega) (by omega) rfl ?_;clear H;intro v65 ait a w arw H;refine kH H (bG K7 rfl (SC (Rd rfl (Rm rfl ?_))));clear H K7;intro a H;refine aB ?_;refine dJ ((k+1,v65,xs++[.slice q1 q2 q3,vi (eZ acc rej l[k].head).marks.ins,vi (eZ acc rej l[k].head).marks.move,.slice q4 q5 q6,.slice q7 q8 q9,.slice Oo (gB acc rej l[k].cells).length Oq],ait,_)) (by exact (H.fG (Pl:=[_,_,_]) (eH:=[]) [] (by decide) rfl).sub ⟨rfl,rfl,rfl,rfl,rfl,ay⟩) ?_
   (try dsimp only);exact ⟨by omega,by rw [R6 hk2,hone,jM];exact arw,by rw [R6 hk2,hone,lW];exact (fQ.mono qI).snoc aey rfl,fun b o h=>qI b o (hgm b o h)⟩
  intro jc a H
  try have p59:=dF jc
  have hone:nY acc rej l[k]=[]:=by rw [hce,nE]
  refine kP H (Kc K7 (SC (Rd rfl (Rm rfl ?_))));clear H K7;intro a H;refine aB ?_;refine dJ ((k+1,v,xs,Lo,_)) (by exact (H.fG (Pl:=[_,_]) (eH:=[]) [] (by decide) rfl).sub ⟨rfl,rfl,rfl,rfl,rfl,ay⟩) ?_
  (try dsimp only);exact aaH
 intro h18 a H
 try have tH:=dF h18
 obtain rfl:k=l.length:=by omega
 rw [zF] at hrw fQ;refine eu ?_;refine K3 _ _ ?_;clear K3;refine kP H (SR fun _ jH=>Rm rfl (aj jH rfl ?_));clear H jH;intro a H;refine dw ?_;obtain ⟨G',hm,Ih,H⟩:=H.qG (Li:=[]) hrw (rows:=(gH acc rej l).map aU.dat) (by simp) fQ;refine lv H results165 rfl ?_;exact H.rt Ih
set_option maxHeartbeats 4000000 in
theorem avk {fv:ah} {n:Nat} (ih:O4 fv acc rej n) (hn:n<=536870912):O4 fv acc rej (n+1):=by
 intro G w0 hG hf l v hv hz;obtain ⟨A,c,rfl,hc1,hc2,hg⟩:=hv.slice
 have hml:4294967297<=maxLen:=by decide
 have hll:=Ll l;rw [bQ] at *;refine eN [(0,_),(1,_)] func98 rfl ntmps98 rfl rfl hG ?_;intro a H;refine kP H (SR fun _ K1=>aj K1 rfl (SR fun _ K2=>aj K2 rfl (SQ fun _ K3=>SR fun _ K4=>Rm rfl (Rl jo rfl (Rm rfl (Kz K4 (SB ?_)))))));clear H K1 K2 K4;intro a H;skip;refine fF (ι:=Nat × ah × List ah × OL × GH) (Tc:=[(0,_),(10,_),(11,_)]) (Lc:=[]) (fun gh=>[(5,gh.2.1),(12,vi gh.1)]) (fun gh=>[]++gh.2.2.2.1) (fun gh=>gh.2.2.2.2) (fun gh=>gh.1<=l.length∧dR 68 11 gh.2.1 (dV acc rej (l.take gh.1)).length gh.2.2.1 gh.2.2.2.1∧dK gh.2.2.2.2 11 ((dV acc rej (l.take gh.1)).map au.dat) gh.2.2.1∧(∀ b o,G b=some o->gh.2.2.2.2 b=some o)) (fun gh=>l.length - gh.1) ((0,.slice none 0 0,[],[],G)) (by exact H.sub ⟨rfl,rfl,rfl,rfl,rfl,ay⟩) ?_ ?_
 ·exact Jt
 clear H;rintro ⟨k,v,xs,Lo,g⟩ a w hI H;dsimp only at hI H;obtain ⟨hk,hrw,fQ,hgm⟩:=hI;have hrl:=agx (acc:=acc) (rej:=rej) (l.take k);rw [List.length_take] at hrl;dsimp only [lca,bM] at H;refine kP H (SR fun _ K5=>Rc rfl (Kz K5 (SQ fun _ K6=>Cd rfl ?_ ?_))) <;> clear H K5
 ·intro gL a H
  try have sG:=dT gL
  have hk2:k < l.length:=by omega
  obtain ⟨b_,o_,pA,pn,pc,dA,dn,dc,yA,yn,yc,fA,fn,fc,rA,rn,rc,rfl,hrow,hhd,hfl,hrs⟩:=JX hk2 hg;replace hrow:=fun j u hj=>aF hgm (hrow j u hj);replace hhd:=hhd.mono hgm;replace hfl:=hfl.mono hgm;replace hrs:=hrs.mono hgm;have hzi:=OC hk2;have hce:=R4 (acc:=acc) (rej:=rej) l[k];refine kP H (Kc K6 (SQ fun _ K7=>SB (SR fun _ K8=>Ri jo gN rfl rfl ?_)));clear H K6;intro a H;refine aV gN (cs:=[_,_,_,_,_,_,_,_,_,_,_]) H wn rfl rfl (fun j v hj=>H.hp.aI (hrow j v hj)) rfl ?_;clear H;intro a H;refine dP gN H wn rfl ?_;clear H;intro b7 a w zN H;refine bK gN 0 (vs:=[_,_,_,_,_,_,_,_,_,_,_]) H wn rfl ?_;clear H;intro w H;refine K8 _ _ ?_;clear K8;refine kP H (SR fun _ K9=>Rm rfl (Rf wK rfl ?_));clear H;intro a H;refine aV dW (cs:=[_,_,_,_,_]) H wn rfl rfl (H.hp.cB 0 rfl rfl) rfl ?_;clear H;intro a H;refine jJ H wn rfl rfl (hf _ _ hgm H.ro l[k].head _ _ _ hhd (by omega)) rfl ?_;clear H;rintro v20 FV a w aqo oC H;obtain ⟨q1,q2,q3,q4,q5,q6,q7,q8,q9,rfl,WB⟩:=aqo.ans;refine kH H (Rm rfl ?_);clear H;intro a H;(iterate 2 refine mh H wn rfl rfl rfl ?_;clear H;intro a H);refine dP dW H wn rfl ?_;clear H;intro b8 a w Cr H;refine bK dW 0 (vs:=[_,_,_,_,_]) H wn rfl ?_;clear H;intro w H;refine kH H (aj K9 rfl (SQ fun _ aS=>SR fun _ bH=>Rm rfl (Rn rfl (Kz bH (Cd rfl ?_ ?_))))) <;> clear H K9 bH
  ·intro bS a H
   try have jP:=dT bS
   have hone:mH acc rej l[k]=[]:=by rw [hce,aD (by simpa using bS)]
   refine eu ?_;refine K7 _ _ ?_;clear K7;refine kP H (SC (Rd rfl (Rm rfl ?_)));clear H;intro a H;refine aB ?_;refine dJ ((k+1,v,xs,Lo,_)) (by exact (H.fG (Pl:=[_,_]) (eH:=[]) [] (by decide) rfl).sub ⟨rfl,rfl,rfl,rfl,rfl,ay⟩) ?_
   (try dsimp only);exact ⟨by omega,by rw [KP hk2,hone,iF];exact hrw,by rw [KP hk2,hone,iF];exact fQ.mono oC,fun b o h=>oC b o (hgm b o h)⟩
  intro bS a H
  try have jP:=dF bS
  have Ia:¬ lG acc rej l[k].head:=by simpa using bS
  rw [av Ia] at hce;have han:eZ acc rej l[k].head=iH acc rej l[k].head:=av Ia;refine iG ?_;refine aS _ _ ?_;clear aS;refine dz (fun _ bT=>?_);refine aV dW (cs:=[_,_,_,_,_]) H wn rfl rfl (H.hp.cB 0 rfl rfl) rfl ?_;clear H;intro a H;refine kH H (Rf wK rfl ?_);clear H;intro a H;refine bK dW 1 (vs:=[_,_,_,_,_]) H wn rfl ?_;clear H;intro w H;refine bT _ _ ?_;clear bT;refine uf (ι:=au × List ah × GH) (Tc:=[(0,_),(5,_),(7,_),(10,_),(11,_),(12,_)]) (Lc:=[(_,_)]) (fun gh=>[]) (fun gh=>[(b7,.cells gh.2.1.toArray 68 (0,0))]++Lo) (fun gh=>gh.2.2) (fun gh=>mH acc rej l[k]=[gh.1]∧bD gh.2.2 gh.1.dat gh.2.1∧(∀ b o,FV b=some o->gh.2.2 b=some o)) (by exact H.sub ⟨rfl,rfl,rfl,rfl,rfl,rfl,ay⟩) ?_ ?_
  ·skip;refine kP H (SR fun _ cK=>bO lS aG 1 rfl rfl (Kz cK (SB (SR fun _ dB=>Rc rfl (aj dB rfl (Cd rfl ?_ ?_)))))) <;> clear H cK dB
   ·intro iB a H
    try have p29:=dT iB
    refine kP H (SC (Rm rfl (bO zK kV 1 rfl rfl ?_)));clear H;intro a H;refine s_call Vi H wn rfl (ih _ _ H.ro (hf.mono fun b o h=>oC b o (hgm b o h)) l[k].flow _ (hfl.mono oC) (by omega)) rfl ?_;clear H;rintro v34 OQ a w Fp Kl H;obtain ⟨Et,n34,c34,rfl⟩:=Fp.form;refine kH H (Rf zK rfl ?_);clear H;intro a H;refine bK kV 1 (vs:=[_]) H wn rfl ?_;clear H;intro w H;refine aB ?_;refine ⟨(.mk l[k].kind l[k].code l[k].id l[k].text (eZ acc rej l[k].head) (dV acc rej l[k].flow) l[k].rows,[vi l[k].kind,vi l[k].code,vi l[k].id,.string l[k].text,.slice q1 q2 q3,vi (eZ acc rej l[k].head).marks.ins,vi (eZ acc rej l[k].head).marks.move,.slice q4 q5 q6,.slice q7 q8 q9,.slice Et n34 c34,.slice rA rn rc],OQ),by exact H.sub ⟨rfl,rfl,rfl,rfl,rfl,rfl,ay⟩,?_⟩;(try dsimp only);exact ⟨by rw [hce,aD p29,han],bD.mkItem (x:=.mk l[k].kind l[k].code l[k].id l[k].text (eZ acc rej l[k].head) (dV acc rej l[k].flow) l[k].rows) (WB.mono Kl) Fp (hrs.mono fun b o h=>Kl b o (oC b o h)),Kl⟩
   intro iB a H
   try have p29:=dF iB
   refine kP H (SR fun _ eU=>Rc rfl (aj eU rfl (Cd rfl ?_ ?_))) <;> clear H eU
   ·intro wN a H
    try have p36:=dT wN
    refine kP H (SR fun _ eX=>Rm rfl (bO um uE 1 rfl rfl ?_));clear H;intro a H;refine s_call alG H wn rfl (avm ih (by omega) _ _ H.ro (hf.mono fun b o h=>oC b o (hgm b o h)) l[k].rows _ (hrs.mono oC) (by omega)) rfl ?_;clear H;rintro v41 I9 a w WV wS H;obtain ⟨A41,n41,c41,rfl⟩:=WV.form;have aef:=WV.len;rw [bQ] at aef;subst aef;refine kH H (Rf um rfl ?_);clear H;intro a H;refine bK uE 1 (vs:=[_]) H wn rfl ?_;clear H;intro w H;refine eX _ _ ?_;clear eX;refine kP H (SR fun _ eG=>bO um uE 1 rfl rfl (Rl nM rfl (Rc rfl (Kz eG (Cd rfl ?_ ?_))))) <;> clear H eG
    ·intro h46 a H
     try have p46:=dT h46
     have hone:mH acc rej l[k]=[]:=by rw [hce,av p29,aD p36,nE]
     refine eu ?_;refine K7 _ _ ?_;clear K7;refine kP H (SC (Rd rfl (Rm rfl ?_)));clear H;intro a H;refine aB ?_;refine dJ ((k+1,v,xs,Lo,_)) (by exact (H.fG (Pl:=[_,_]) (eH:=[]) [] (by decide) rfl).sub ⟨rfl,rfl,rfl,rfl,rfl,ay⟩) ?_
     (try dsimp only);exact ⟨by omega,by rw [KP hk2,hone,iF];exact hrw,by rw [KP hk2,hone,iF];exact fQ.mono fun b o h=>wS b o (oC b o h),fun b o h=>wS b o (oC b o (hgm b o h))⟩
    intro h46 a H
    try have p46:=dF h46
    refine iG ?_;refine ⟨(.mk l[k].kind l[k].code l[k].id l[k].text (eZ acc rej l[k].head) l[k].flow (gH acc rej l[k].rows),[vi l[k].kind,vi l[k].code,vi l[k].id,.string l[k].text,.slice q1 q2 q3,vi (eZ acc rej l[k].head).marks.ins,vi (eZ acc rej l[k].head).marks.move,.slice q4 q5 q6,.slice q7 q8 q9,.slice fA fn fc,.slice A41 (gH acc rej l[k].rows).length c41],I9),by exact H.sub ⟨rfl,rfl,rfl,rfl,rfl,rfl,ay⟩,?_⟩;(try dsimp only);exact ⟨by rw [hce,av p29,aD p36,dL,han],bD.mkItem (x:=.mk l[k].kind l[k].code l[k].id l[k].text (eZ acc rej l[k].head) l[k].flow (gH acc rej l[k].rows)) (WB.mono wS) (hfl.mono fun b o h=>wS b o (oC b o h)) WV,wS⟩
   intro wN a H
   try have p36:=dF wN
   refine iG ?_;refine ⟨(.mk l[k].kind l[k].code l[k].id l[k].text (eZ acc rej l[k].head) l[k].flow l[k].rows,[vi l[k].kind,vi l[k].code,vi l[k].id,.string l[k].text,.slice q1 q2 q3,vi (eZ acc rej l[k].head).marks.ins,vi (eZ acc rej l[k].head).marks.move,.slice q4 q5 q6,.slice q7 q8 q9,.slice fA fn fc,.slice rA rn rc],_),by exact H.sub ⟨rfl,rfl,rfl,rfl,rfl,rfl,ay⟩,?_⟩;(try dsimp only);exact ⟨by rw [hce,av p29,av p36,han],bD.mkItem (x:=.mk l[k].kind l[k].code l[k].id l[k].text (eZ acc rej l[k].head) l[k].flow l[k].rows) WB (hfl.mono oC) (hrs.mono oC),fun _ _ h=>h⟩
  clear H;rintro ⟨y,cs9,g9⟩ a w hI H;dsimp only at hI H;obtain ⟨hone,Nj,Cv⟩:=hI;obtain ⟨e1,e2,e3,e4,e5,e6,e7,e8,e9,f1,f2,f3,f4,f5,f6,Qw,-,-,-⟩:=Nj.item;rw [Qw] at H;dsimp only [lca,bM] at H;refine kP H (SC (Rm rfl ?_));clear H;intro a H;refine aV gN (cs:=[_,_,_,_,_,_,_,_,_,_,_]) H wn rfl rfl (H.hp.cB 1 rfl rfl) rfl ?_;clear H;intro a H;refine iV jo gN [_,_,_,_,_,_,_,_,_,_,_] [_,_,_,_,_,_,_,_,_,_,_] H wn rfl rfl rfl rfl rfl (by intro i q h;match i,h with|0,h=>exact h|n+1,h=>simp at h) rfl rfl ?_;clear H;intro b49 a w ayH H;refine oZ (Li:=[_,_,_]) (Lo:=Lo) (news:=cs9) jo gN rfl rfl H wn rfl rfl hrw (by rw [Qw];rfl) (by rw [Qw];exact H.hp.cB 0 rfl rfl) Nj.one (by omega) (by omega) rfl ?_;clear H;intro v50 aiq a w ars H;refine kH H (bG K7 rfl (SC (Rd rfl (Rm rfl ?_))));clear H K7;intro a H;refine aB ?_;refine dJ ((k+1,v50,xs++cs9,aiq,_)) (by exact (H.fG (Pl:=[_,_,_]) (eH:=[]) [] (by decide) rfl).sub ⟨rfl,rfl,rfl,rfl,rfl,ay⟩) ?_
  (try dsimp only);exact ⟨by omega,by rw [KP hk2,hone,jM];exact ars,by rw [KP hk2,hone,lW];exact (fQ.mono fun b o h=>Cv b o (oC b o h)).snoc Nj (by rw [Qw];rfl),fun b o h=>Cv b o (oC b o (hgm b o h))⟩
 intro gL a H
 try have sG:=dF gL
 obtain rfl:k=l.length:=by omega
 rw [zF] at hrw fQ;refine eu ?_;refine K3 _ _ ?_;clear K3;refine kP H (SR fun _ fC=>Rm rfl (aj fC rfl ?_));clear H fC;intro a H;refine dw ?_;obtain ⟨G',hm,Ih,H⟩:=H.qG (Li:=[]) hrw (rows:=(dV acc rej l).map au.dat) (by simp) fQ;refine lv H results98 rfl ?_;exact H.rt Ih
theorem agw {fv:ah}:∀ n:Nat,n<=536870913->O4 fv acc rej n
 | 0,_=>fun _ _ _ _ _ _ _ h=>absurd h (by omega)
 | n+1,hn=>avk (agw n (by omega)) (by omega)
end
def Eu (A:List au):Prop:=(∀ y∈A,¬ ru y)∧∀ o z y p,A=o++z :: y :: p->¬ qb z y
theorem agW {A o p:List au} {x z y:au} (h:A++[x]=o++z :: y :: p):(p=[]∧A=o++[z]∧x=y)∨∃ p',p=p'++[x]∧A=o++z :: y :: p':=by
 rcases List.eq_nil_or_concat p with rfl|⟨p',w,rfl⟩
 ·have e:A++[x]=(o++[z])++[y]:=by rw [h];simp
  obtain ⟨e1,e2⟩:=List.append_inj' e rfl;exact .inl ⟨rfl,e1,by simpa using e2⟩
 have e:A++[x]=(o++z :: y :: p')++[w]:=by rw [h];simp
 obtain ⟨e1,e2⟩:=List.append_inj' e rfl
 have:x=w:=by simpa using e2
 exact .inr ⟨p',by rw [this,List.concat_eq_append],e1⟩
theorem aaZ {out:List au} {y:au} (h:Eu out):Eu (addN out y):=by
 by_cases hd:ru y
 ·rw [Jh hd];exact h
 by_cases hj:∃ o z,out=o++[z]∧qb z y
 ·obtain ⟨o,z,rfl,hz⟩:=hj;rw [BQ hd hz];refine ⟨fun x hx=>?_,fun o' z' y' p e=>?_⟩
  ·rcases jS.1 hx with hx|hx
   ·exact h.1 x (List.mem_append_left _ hx)
   rw [pU.1 hx];rintro (⟨h1,-⟩|⟨-,h2⟩)
   ·have:(mR z y).kind=1:=hz.2.1
    omega
   refine hd (.inr ⟨hz.1,?_⟩);rw [show (mR z y).text=z.text++y.text from rfl,ByteArray.size_append] at h2;omega
  rcases agW e with ⟨rfl,e1,e2⟩|⟨p',rfl,e1⟩
  ·subst e2;refine fun hq=>h.2 o' z' z [] (by rw [e1];simp) ⟨hz.2.1,hq.2.1,hq.2.2⟩
  exact h.2 o' z' y' (p'++[z]) (by rw [e1];simp)
 have hn:∀ o z,out=o++[z]->¬ qb z y:=fun o z e hz=>hj ⟨o,z,e,hz⟩;rw [Dl hd hn];refine ⟨fun x hx=>?_,fun o' z' y' p e=>?_⟩
 ·rcases jS.1 hx with hx|hx
  ·exact h.1 x hx
  rw [pU.1 hx];exact hd
 rcases agW e with ⟨rfl,e1,rfl⟩|⟨p',rfl,e1⟩
 ·exact hn _ _ e1
 exact h.2 o' z' y' p' e1
theorem abb:∀ (A out:List au),Eu out->Eu (A.foldl addN out)
 | [],_,h=>h
 | y :: A,out,h=>abb A (addN out y) (aaZ h)
theorem abe:Eu []:=⟨fun _ h=>(by cases h),fun o z y p e=>by simp at e⟩
theorem abd:∀ (A B:List au),Eu (A++B)->B.foldl addN A=A++B
 | A,[],_=>by simp
 | A,y :: B,h=>by
  have e:A++y :: B=(A++[y])++B:=by simp
  rw [List.foldl_cons,Dl (h.1 y (by simp)) fun o z e hz=>h.2 o z y B (by rw [e];simp) hz,abd (A++[y]) B (by rw [<- e];exact h),e]
theorem aoI {z y:au} (hz:nI z=z) (_:nI y=y) (_:qb z y):nI (mR z y)=mR z y:=by
 obtain ⟨k,c,i,tx,h,f,r⟩:=z;rw [nI] at hz
 injection hz with _ _ _ _ _ e1 e2
 show nI (.mk k c i (tx++y.text) h f r)=.mk k c i (tx++y.text) h f r
 rw [nI,e1,e2]
theorem Vq {A:List au} (h:∀ x∈A,nI x=x):(mU (A.foldl addN [])).foldl addN []=A.foldl addN []:=by
 have h1:=Vt (Q:=fun x=>nI x=x) (fun z y hz hy hj=>aoI hz hy hj) A [] h (fun _ h=>by cases h)
 have h2:mU (A.foldl addN [])=A.foldl addN []:=by
  rw [KG];exact (List.map_congr_left h1).trans (List.map_id' _)
 rw [h2];have h3:=abd [] (A.foldl addN []) (by rw [nQ];exact abb A [] abe)
 rwa [nQ] at h3
mutual
theorem atg:∀ x:au,nI (nI x)=nI x
 | .mk k c i tx h f r=>by
  have hf:=Rq f;have hr:=XR r;rw [nI,nI,Vq hf,hr]
theorem ath:∀ x:aU,nR (nR x)=nR x
 | .mk h cs=>by
  have hc:=afr cs;rw [nR,nR,hc]
theorem atd:∀ x:aX,nC (nC x)=nC x
 | .mk i h f=>by
  have hf:=Rq f;rw [nC,nC,Vq hf]
theorem Rq:∀ l:List au,∀ x∈mU l,nI x=x
 | [],x,hx=>by rw [mU] at hx;cases hx
 | y :: l,x,hx=>by
  have h1:=atg y;have h2:=Rq l;rw [mU] at hx
  rcases iy.1 hx with rfl|hx
  ·exact h1
  exact h2 x hx
theorem XR:∀ l:List aU,lK (lK l)=lK l
 | []=>by rw [lK,lK]
 | y :: l=>by rw [lK,lK,ath y,XR l]
theorem afr:∀ l:List aX,lJ (lJ l)=lJ l
 | []=>by rw [lJ,lJ]
 | y :: l=>by rw [lJ,lJ,atd y,afr l]
end
section
section
variable {N:Nat} {D:List Deferred} {w0:World} {F:Nat->Prop} {G0 G:GH} {L:OL} {T:List (Nat × ah)}
variable {r:Option Nat} {P:Program} {ops:Array Oper} {Q:Exit->Act->World->Prop} {rest:List Oper} {a:Act} {w:World}
variable {d:Nat} {ty:TypeId} {pos:String} {aO:Array Edge} {g:Option (Nat × Bool)}
end
end
def afb:Go.Shelf.Ren:=⟨fun|7=>90|10=>150|n=>n,fun|0=>0|3=>4|4=>4|23=>131|26=>3|27=>165|28=>166|33=>137|n=>n,fun n=>n⟩
theorem afa:Go.Proofs.SlLaysZI.n7 prog afb where
 mixed:=by kernel_rfl
 f7:=⟨f90.name,by kernel_rfl,func90.trans (cO some (by kernel_rfl))⟩
 f10:=⟨f150.name,by kernel_rfl,func150.trans (cO some (by kernel_rfl))⟩
 t0:=underlying0
 a0:=isAgg0
 z0:=sizeOf0
 v0:=zeroValue0
 t4:=underlying4
 a4:=isAgg4
 z4:=sizeOf4
 v4:=zeroValue4
 t23:=underlying131
 a23:=isAgg131
 z23:=sizeOf131
 v23:=zeroValue131
 t26:=underlying3
 a26:=isAgg3
 z26:=sizeOf3
 v26:=zeroValue3
 t27:=underlying165
 a27:=isAgg165
 z27:=sizeOf165
 v27:=zeroValue165
 t28:=underlying166
 a28:=isAgg166
 z28:=sizeOf166
 v28:=zeroValue166
 t33:=underlying137
 a33:=isAgg137
 z33:=sizeOf137
 v33:=zeroValue137
def agY:Go.Shelf.Ren:=⟨fun|6=>89|8=>149|9=>148|11=>209|n=>n,fun|0=>0|24=>41|26=>3|28=>166|33=>137|n=>n,fun n=>n⟩
theorem awS:Go.Proofs.SlLaysZI.n6 prog agY where
 mixed:=by kernel_rfl
 f6:=⟨f89.name,by kernel_rfl,func89.trans (cO some (by kernel_rfl))⟩
 f8:=⟨f149.name,by kernel_rfl,func149.trans (cO some (by kernel_rfl))⟩
 f11:=⟨f209.name,by kernel_rfl,func209.trans (cO some (by kernel_rfl))⟩
 t0:=underlying0
 a0:=isAgg0
 z0:=sizeOf0
 v0:=zeroValue0
 t24:=underlying41
 a24:=isAgg41
 z24:=sizeOf41
 v24:=zeroValue41
 t26:=underlying3
 a26:=isAgg3
 z26:=sizeOf3
 v26:=zeroValue3
 t28:=underlying166
 a28:=isAgg166
 z28:=sizeOf166
 v28:=zeroValue166
 i26:=by kernel_rfl
def awR:Go.Shelf.Ren:=⟨fun|5=>148|7=>207|8=>208|10=>230|11=>231|12=>232|13=>233|14=>234|15=>235|16=>114|17=>236|18=>237|19=>238|20=>239|30=>255|31=>256|32=>257|33=>258|34=>259|35=>174|40=>269|n=>n,fun|0=>0|3=>3|4=>4|5=>5|9=>9|22=>41|23=>41|25=>3|32=>199|35=>301|36=>302|41=>114|44=>308|46=>310|53=>328|57=>180|63=>344|64=>345|n=>n,fun n=>n⟩
theorem agX:Go.Proofs.SlLaysM.n5 prog awR where
 mixed:=by kernel_rfl
 f5:=⟨f148.name,by kernel_rfl,func148.trans (cO some (by kernel_rfl))⟩
 f7:=⟨f207.name,by kernel_rfl,func207.trans (cO some (by kernel_rfl))⟩
 f8:=func208.trans (cO some (by kernel_rfl))
 f10:=⟨f230.name,by kernel_rfl,func230.trans (cO some (by kernel_rfl))⟩
 f11:=⟨f231.name,by kernel_rfl,func231.trans (cO some (by kernel_rfl))⟩
 f12:=⟨f232.name,by kernel_rfl,func232.trans (cO some (by kernel_rfl))⟩
 f13:=⟨f233.name,by kernel_rfl,func233.trans (cO some (by kernel_rfl))⟩
 f14:=⟨f234.name,by kernel_rfl,func234.trans (cO some (by kernel_rfl))⟩
 f15:=⟨f235.name,by kernel_rfl,func235.trans (cO some (by kernel_rfl))⟩
 f16:=⟨f114.name,by kernel_rfl,func114.trans (cO some (by kernel_rfl))⟩
 f17:=⟨f236.name,by kernel_rfl,func236.trans (cO some (by kernel_rfl))⟩
 f18:=⟨f237.name,by kernel_rfl,func237.trans (cO some (by kernel_rfl))⟩
 f19:=func238.trans (cO some (by kernel_rfl))
 f20:=func239.trans (cO some (by kernel_rfl))
 f30:=⟨f255.name,by kernel_rfl,func255.trans (cO some (by kernel_rfl))⟩
 f31:=func256.trans (cO some (by kernel_rfl))
 f32:=func257.trans (cO some (by kernel_rfl))
 f33:=⟨f258.name,by kernel_rfl,func258.trans (cO some (by kernel_rfl))⟩
 f34:=⟨f259.name,by kernel_rfl,func259.trans (cO some (by kernel_rfl))⟩
 f35:=⟨f174.name,by kernel_rfl,func174.trans (cO some (by kernel_rfl))⟩
 f40:=⟨f269.name,by kernel_rfl,func269.trans (cO some (by kernel_rfl))⟩
 t0:=underlying0
 a0:=isAgg0
 z0:=sizeOf0
 v0:=zeroValue0
 t3:=underlying3
 a3:=isAgg3
 z3:=sizeOf3
 v3:=zeroValue3
 t4:=underlying4
 a4:=isAgg4
 z4:=sizeOf4
 v4:=zeroValue4
 t5:=underlying5
 a5:=isAgg5
 z5:=sizeOf5
 v5:=zeroValue5
 t9:=underlying9
 a9:=isAgg9
 z9:=sizeOf9
 v9:=zeroValue9
 t22:=underlying41
 a22:=isAgg41
 z22:=sizeOf41
 v22:=zeroValue41
 t23:=underlying41
 a23:=isAgg41
 z23:=sizeOf41
 v23:=zeroValue41
 t25:=underlying3
 a25:=isAgg3
 z25:=sizeOf3
 v25:=zeroValue3
 t32:=underlying199
 a32:=isAgg199
 z32:=sizeOf199
 v32:=zeroValue199
 t35:=underlying301
 a35:=isAgg301
 z35:=sizeOf301
 v35:=zeroValue301
 t36:=underlying302
 a36:=isAgg302
 z36:=sizeOf302
 v36:=zeroValue302
 t41:=underlying114
 a41:=isAgg114
 z41:=sizeOf114
 v41:=zeroValue114
 t44:=underlying308
 a44:=isAgg308
 z44:=sizeOf308
 v44:=zeroValue308
 t46:=underlying310
 a46:=isAgg310
 z46:=sizeOf310
 v46:=zeroValue310
 t53:=underlying328
 a53:=isAgg328
 z53:=sizeOf328
 v53:=zeroValue328
 t57:=underlying180
 a57:=isAgg180
 z57:=sizeOf180
 v57:=zeroValue180
 t63:=underlying344
 a63:=isAgg344
 z63:=sizeOf344
 v63:=zeroValue344
 t64:=underlying345
 a64:=isAgg345
 z64:=sizeOf345
 v64:=zeroValue345
section
open Go.RowKit Go.Maps
theorem alu:aQ 148:=aR func148 rfl
theorem alv:aQ 150:=aR func150 rfl
theorem arb {G:GH} {w:World} (h:Hold G w) {b:Nat} (hb:w.heap.size<=b):G b=none:=by
 cases hg:G b with
 | none=>rfl
 | some o=>exact absurd (lt_of_heap (h b o hg)) (by omega)
theorem acC {G:GH} {w w':World} (h:Hold G w) (hb:Below w.heap.size w w') {b:Nat} {o:Obj} (hn:w.heap.size<=b) (ho:w'.heap[b]?=some o):Ext w.heap.size G (G.add b o) w':=by
 refine ⟨fun k o' hk=>GH.Ji G (arb h hn) k o' hk,fun k o' hk=>?_,fun k o' hk=>?_⟩
 ·unfold GH.add at hk
  split at hk
  ·rename_i e;exact .inr (e ▸ hn)
  exact .inl hk
 unfold GH.add at hk
 split at hk
 ·rename_i e;rw [e,ho,hk]
 exact (hb.block k (lt_of_heap (h k o' hk))).trans (h k o' hk)
theorem ata (G:GH) (w0:World) (hG:Hold G w0) (mb:Option Nat) :
  Calls prog 90 #[.map mb] w0 (bE w0 G fun u G'=>∃ bx,u=.func (.func 150) #[] #[(aK bx 0)]∧G' bx=some (.cells #[.map mb] 131 (0,0))):=by
 have h:CallsIn Fence.wide 5 prog 90 #[.map mb] w0 fun e w'=>e=.returned (.func (.func 150) #[] #[(aK w0.heap.size 0)])∧w'=w0.alloc (.cells #[.map mb] 131):=AnyZI.keys_in afa Fence.wide 5 trivial rfl mb w0;refine ((callsIn_wide (n:=5)).1 h).mono ?_;rintro e w' ⟨rfl,rfl⟩;have hb:Below w0.heap.size w0 (w0.alloc (.cells #[.map mb] 131)):=(Below.refl _ w0).alloc (eP _) _;exact ⟨_,_,rfl,hb,acC hG hb (eP _) (show (w0.heap.push _)[w0.heap.size]?=_ by simp),_,rfl,GH.Jj _ _ _⟩
def IK (_:ah):Option (DataW Unit × List MemPlace):=some (.nil,[])
theorem atO {w:World} {b clock:Nat} {es:Array MapEntry} {l:List Int} (hb:w.heap[b]?=some (.map es clock)) (hs:MapKept.Stamped es clock) (hk:es.toList.map (·.key)=l.map (Value.int .i64)) (hw:∀ k∈l,-9223372036854775808<=k∧k < 9223372036854775808) (hl:l.length<=4294967296) :
  ∃ D:DataW Unit,w.ownsMap prog 3 IK b l.length D∧(intKeys D).Perm l∧Maps.size D=l.length:=by
 have hlen:es.size=l.length:=by
  have:=cO List.length hk
  simpa using this
 have hml:maxLen=9223372036854775807:=rfl
 have hr:∀ x∈es.toList,∃ k∈l,Go.WideElems.rd prog 3 IK x=some (.int .i64 k,.nil):=by
  intro x hx
  have h1:x.key∈l.map (Value.int .i64):=by rw [<- hk];exact List.mem_map_of_mem hx
  obtain ⟨k,h2,h3⟩:=List.mem_map.1 h1;obtain ⟨h4,h5⟩:=hw k h2
  have hwf:(Lit.int .i64 k).wf=true:=by
   show (decide (IntKind.i64.min<=k) && decide (k<=IntKind.i64.max))=true
   rw [show IntKind.i64.min=-9223372036854775808 by decide,show IntKind.i64.max=9223372036854775807 by decide]
   simp;omega
  refine ⟨k,h2,?_⟩
  unfold Go.WideElems.rd
  rw [<- h3]
  have h6:keyOf prog 3 (.int .i64 k)=some (.int .i64 k):=by
   unfold keyOf mapKey
   rw [underlying3]
   simp [hwf]
  rw [h6]
  rfl
 refine ⟨_,⟨es,clock,hb,⟨by omega,hs,fun x hx=>?_⟩,by omega,rfl⟩,?_,?_⟩
 ·obtain ⟨k,-,h⟩:=hr x hx;exact ⟨_,h⟩
 ·show (((es.toList.map (Go.WideElems.rg prog 3 IK)).foldr DataW.insert []).map fun p=>Go.intOf p.1).Perm l
  refine ((Go.WideShapes.sorted_perm _).map _).trans ?_;rw [List.map_map]
  have h1:es.toList.map ((fun p:Lit × DataW Unit=>Go.intOf p.1) ∘ Go.WideElems.rg prog 3 IK)=l:=by
   have h2:es.toList.map ((fun p:Lit × DataW Unit=>Go.intOf p.1) ∘ Go.WideElems.rg prog 3 IK)=(es.toList.map (·.key)).map fun v=>match v with|.int _ a=>a|_=>0:=by
    rw [List.map_map];refine List.map_congr_left fun x hx=>?_;obtain ⟨k,hkl,h⟩:=hr x hx
    obtain ⟨k',h3,h4⟩:∃ k',Go.WideElems.rd prog 3 IK x=some (.int .i64 k',.nil)∧x.key=.int .i64 k':=by
     have h5:x.key∈l.map (Value.int .i64):=by rw [<- hk];exact List.mem_map_of_mem hx
     obtain ⟨k',h6,h7⟩:=List.mem_map.1 h5;refine ⟨k,h,?_⟩;have h8:=Go.WideElems.rd_key h;obtain ⟨z,h9,h10,-⟩:=Maps.keyOf_i64 underlying3 h8
     cases h10
     exact h9
    simp only [Function.comp,Go.WideElems.rg_of h3,h4,Go.intOf]
   rw [h2,hk,List.map_map]
   simp [Function.comp_def]
  rw [h1]
 show ((es.toList.map (Go.WideElems.rg prog 3 IK)).foldr DataW.insert []).length=_
 rw [(Go.WideShapes.sorted_perm _).length_eq,bQ,vE,hlen]
theorem awU (m:Nat):AnyZI.SortsIn prog agY Fence.wide m :=
  ⟨fun blk off cap ss W hH hblk hsz=>callsIn_wide.2 (AnyM.slices_Sort_int agX blk off cap ss W hH hblk hsz),
   fun p cap W=>callsIn_wide.2 (AnyM.slices_Sort_int_none agX p cap W)⟩
def zX (l:List Int):List Int:=l.mergeSort leI
theorem awT (G:GH) (w0:World) (hG:Hold G w0) (b bx clock:Nat) (es:Array MapEntry) (l:List Int) (hbx:G bx=some (.cells #[.map (some b)] 131 (0,0))) (hb:w0.heap[b]?=some (.map es clock)) (hs:MapKept.Stamped es clock) (hk:es.toList.map (·.key)=l.map (Value.int .i64))
  (hw:∀ k∈l,-9223372036854775808<=k∧k < 9223372036854775808) (hl:l.length<=4294967296) :
  Calls prog 89 #[.func (.func 150) #[] #[(aK bx 0)]] w0 (bE w0 G fun u G'=>ak G' (.sl 1 ((zX l).map fun k=>[li k])) u):=by
 obtain ⟨D0,hown,hperm,hsize⟩:=atO hb hs hk hw hl;have hml:maxLen=9223372036854775807:=rfl
 have hseq:SeqGives Fence.wide 2 prog 150 #[(aK bx 0)] encZ (fun ss=>ss.Perm (intKeys D0)) (Maps.size D0) w0 :=
  AnyZI.keys_gives (ρ:=afb) { afa with } Fence.wide _ trivial rfl (by omega) bx b l.length D0 _ (lt_of_heap (hG _ _ hbx)) (by simp [World.cell?,hG _ _ hbx]) hown
 have cS:=AnyZI.sorted_in awS Fence.wide 5 trivial trivial trivial trivial rfl (by omega) (awU _) alu 150 #[(aK bx 0)] trivial alv _ _ (by omega) (by omega) _ hseq
 change CallsIn _ _ prog 89 _ _ _ at cS
 refine ((callsIn_wide (n:=5)).1 cS).mono ?_;rintro e w' ⟨v,ss,rfl,hS,hrow,-,hbel⟩;have hS2:ss.mergeSort (fun x y=>decide (x<=y))=zX l:=mergeSort_of_perm_i (hS.trans hperm);rw [hS2] at hrow
 have hlen:ss.length=(zX l).length:=by rw [zX,List.length_mergeSort,hS.length_eq,hperm.length_eq]
 have fQ:∀ (G1:GH) (xs:List Int),dK G1 1 (xs.map fun k=>[li k]) (xs.map encZ):=by
  intro G1 xs
  induction xs with
  | nil=>exact dK.nil
  | cons x xs ih =>
   have h8:=((dK.nil (G:=G1) (sz:=1)).snoc (q:=[li x]) (cs:=[encZ x]) (by simp [bD,ak,li,Value.oneCell']) rfl).append ih
   simpa using h8
 rcases hrow.2 with ⟨rfl,hz⟩|⟨gb,cap,cur,rfl,hbase,hgb,r1,r2,r3,r4⟩
 ·refine ⟨_,G,rfl,hbel,⟨fun _ _ h=>h,fun _ _ h=>.inl h,fun k o hk=>(hbel.block k (lt_of_heap (hG k o hk))).trans (hG k o hk)⟩,?_⟩;rw [List.eq_nil_of_length_eq_zero (by omega:(zX l).length=0)]
  simp only [ak]
  exact aav
 exact ⟨_,_,rfl,hbel,acC hG hbel hbase hgb,ak.vZ (GH.Jj G gb _) (by simp [hlen]) r1 r2 (by simpa using r4) (fQ _ _)⟩
end
section
abbrev jK (l:List Int):List (Int × ah):=l.map fun q=>(q,.bool true)
theorem agR (l:List Int):(jK l).map (·.1)=l:=by rw [List.map_map];simp [Function.comp_def]
theorem awn (l r:List Int):jK (l++r)=jK l++jK r:=lW
theorem XK:∀ (i:Nat) (l:List (Int × ah)),(ji i l).map (·.key)=l.map fun x=>Value.int .i64 x.1
 | _,[]=>rfl
 | i,(k,v) :: r=>by rw [ji,fH,fH,XK (i+1) r]
theorem XJ:∀ (i:Nat) (l:List (Int × ah)),(ji i l).map (·.born)=List.range' i l.length
 | _,[]=>rfl
 | i,(k,v) :: r=>by rw [ji,fH,XJ (i+1) r];rfl
theorem afo:∀ (i n:Nat) (l:List (Int × ah)),(ji i l)[n]?=(l[n]?).map fun x=>⟨.int .i64 x.1,x.2,i+n⟩
 | _,_,[]=>rfl
 | i,0,(k,v) :: r=>rfl
 | i,n+1,(k,v) :: r=>by rw [ji,List.getElem?_cons_succ,List.getElem?_cons_succ,afo (i+1) n r,show i+1+n=i+(n+1) by omega]
theorem asZ {l:List (Int × ah)} (h:(l.map (·.1)).Nodup):MapKept.Stamped (ji 0 l).toArray l.length:=by
 refine ⟨fun x hx=>?_,?_,?_⟩
 ·have h1:=List.mem_map_of_mem (f:=(·.born)) hx
  rw [XJ] at h1
  have:=List.mem_range'_1.1 h1
  omega
 ·show ((ji 0 l).map (·.born)).Nodup
  rw [XJ];exact List.nodup_range'
 ·show ((ji 0 l).map (·.key)).Nodup
  rw [XK,show (fun x:Int × ah=>Value.int .i64 x.1)=Value.int .i64 ∘ (·.1) from rfl,<- List.map_map]
  exact List.pairwise_map.2 (h.imp fun hne e=>hne (by injection e))
theorem Vo (x:Int):∀ (i j:Nat) (l:List Int),∃ an,Instr.findNow (.int .i64) (.int .i64 x) (ji i (jK l)) j=some an∧((x∈l∧∃ n,an=some (j+n,.bool true)∧l[n]?=some x)∨(x∉l∧an=none))
 | _,_,[]=>⟨none,rfl,.inr ⟨by simp,rfl⟩⟩
 | i,j,k :: r=>by
  by_cases e:k=x
  ·subst e
   exact ⟨some (j,.bool true),by simp only [jK,fH,ji,Instr.findNow,Instr.sameNow,aD,beq_self_eq_true],.inl ⟨fE,0,rfl,rfl⟩⟩
  ·have hb:(x == k)=false:=by simp;exact fun h=>e h.symm
   obtain ⟨an,h1,h2⟩:=Vo x (i+1) (j+1) r
   refine ⟨an,by simpa only [jK,fH,ji,Instr.findNow,Instr.sameNow,aD,hb] using h1,?_⟩
   rcases h2 with ⟨h3,n,h4,h5⟩|⟨h3,h4⟩
   ·exact .inl ⟨gV _ h3,n+1,by rw [h4,show j+1+n=j+(n+1) by omega],h5⟩
   ·exact .inr ⟨fun h=>(iy.1 h).elim (fun h=>e h.symm) h3,h4⟩
theorem XL {α β:Type} (f:α->β):∀ (l:List α) (j:Nat),(l.eraseIdx j).map f=(l.map f).eraseIdx j
 | [],_=>rfl
 | x :: l,0=>rfl
 | x :: l,j+1=>by rw [List.eraseIdx_cons_succ,fH,fH,List.eraseIdx_cons_succ,XL f l j]
def yE (l:List Int) (x:Int):List Int:=if x∈l then l else l++[x]
theorem aiE {l:List Int} {x y:Int}:y∈yE l x↔y∈l∨y=x:=by
 unfold yE
 split
 ·rename_i h
  exact ⟨.inl,fun h2=>h2.elim id fun e=>e ▸ h⟩
 ·simp
theorem aiF {l:List Int} {x:Int} (h:l.Nodup):(yE l x).Nodup:=by
 unfold yE
 split
 ·exact h
 ·rename_i hx
  exact List.nodup_append.2 ⟨h,List.pairwise_singleton _ _,fun a ha b hb e=>hx (by rw [pU] at hb;rw [<- hb,<- e];exact ha)⟩
section
variable {N:Nat} {D:List Deferred} {w0:World} {F:Nat->Prop} {G0 G:GH} {L:OL} {T:List (Nat × ah)}
variable {r:Option Nat} {P:Program} {ops:Array Oper} {Q:Exit->Act->World->Prop} {rest:List Oper} {a:Act} {w:World}
variable {d:Nat} {ty:TypeId} {pos:String} {aO:Array Edge} {g:Option (Nat × Bool)}
theorem Yw {t kt et:TypeId} {x y z:Operand} {b i:Nat} {l:List Int} {ky:Int} (hm:P.underlying t=some (.map kt et)) (hk:P.underlying kt=some (.int .i64)) (H:St N D w0 F G0 G L T a w)
  (hw:Region.wanted ⟨none,.mapUpdate t x y z,ty,pos,aO,g⟩ (yielded ops a.tmps)=true) (hx:ev T x=some (.map (some b))) (hy:ev T y=some (.int .i64 ky)) (hzv:ev T z=some (.bool true)) (hi:L[i]?=some (b,fK (jK l)))
  (k:∀ w',St N D w0 F G0 G (L.set i (b,fK (jK (yE l ky)))) T a w'->WL r P ops Q rest a w'):WL r P ops Q (⟨none,.mapUpdate t x y z,ty,pos,aO,g⟩ :: rest) a w:=by
 obtain ⟨an,hf,han⟩:=Vo ky 0 0 l
 rcases han with ⟨hm2,n,rfl,hn⟩|⟨hm2,rfl⟩
 ·have hkey:MapKept.IsKey (.int .i64) (.int .i64 ky):=by trivial
  have hb:w.heap[b]?=some (.map (ji 0 (jK l)).toArray (jK l).length):=H.hp.own _ (lV hi)
  have h1:=MapKept.run_checkKey (P:=P) (w:=w) hk hkey false 9999
  have h2:=MapKept.run_findKey (P:=P) (w:=w) (l:=(ji 0 (jK l)).toArray.toList) hk (by simpa using hf)
  have h3:=MapKept.run_keyThatStays (P:=P) (w:=w) hkey
  have hgn:(ji 0 (jK l))[n]?=some ⟨.int .i64 ky,.bool true,0+n⟩:=by
   rw [afo];unfold jK;rw [tT,hn];rfl
  have hg:((ji 0 (jK l)).toArray[n]?.map (·.key)).getD (.int .i64 ky)=.int .i64 ky:=by
   rw [List.getElem?_toArray,hgn];rfl
  have hmod:(ji 0 (jK l)).toArray.modify n (fun e=>{ e with key:=.int .i64 ky,val:=.bool true })=(ji 0 (jK l)).toArray:=by
   apply Array.ext_getElem?
   intro j
   rw [Array.getElem?_modify]
   by_cases hij:n=j
   ·subst hij
    rw [aD rfl,List.getElem?_toArray,hgn];rfl
   ·rw [av hij]
  have ha:yE l ky=l:=by unfold yE;rw [aD hm2]
  rw [ha] at k
  refine Zb (w':={ w with heap:=w.heap.setIfInBounds b (fK (jK l)) }) hw rfl ?_ (k _ (H.move (H.hp.upd hi (Y5 hb))))
  show (execOp a.eval _).run P w=.ok _ { w with heap:=w.heap.setIfInBounds b (.map (ji 0 (jK l)).toArray (jK l).length) }
  generalize (ji 0 (jK l)).toArray=es at hb h2 hg hmod |-
  simp [execOp,Instr.mapUpdate,H.ev hx,H.ev hy,H.ev hzv,dY,nZ hm,MapKept.run_getObj_map hb,h1,h2,hg,h3,hmod,MapKept.run_setObj_map _ hb,Result.andThen]
 ·refine NY hm hk H hw hx hy hzv hi (Nz (by rw [agR];exact hm2)) fun w' H'=>k w' ?_
  have ha:yE l ky=l++[ky]:=by unfold yE;rw [av hm2]
  rw [ha,awn]
  exact H'
theorem avJ {t kt et:TypeId} {x y:Operand} {b i:Nat} {l:List Int} {ky:Int} (hm:P.underlying t=some (.map kt et)) (hk:P.underlying kt=some (.int .i64)) (hnd:l.Nodup) (H:St N D w0 F G0 G L T a w)
  (hw:Region.wanted ⟨none,.call { callee:=.builtin .delete,args:=#[x,y],argTypes:=#[t,kt] },ty,pos,aO,g⟩ (yielded ops a.tmps)=true) (hx:ev T x=some (.map (some b))) (hy:ev T y=some (.int .i64 ky)) (hi:L[i]?=some (b,fK (jK l)))
  (k:∀ es clock w',MapKept.Stamped es clock->es.toList.map (·.key)=(l.filter fun q=>decide (q≠ky)).map (Value.int .i64)->St N D w0 F G0 G (L.set i (b,.map es clock)) T a w'->WL r P ops Q rest a w'):WL r P ops Q (⟨none,.call { callee:=.builtin .delete,args:=#[x,y],argTypes:=#[t,kt] },ty,pos,aO,g⟩ :: rest) a w:=by
 obtain ⟨an,hf,han⟩:=Vo ky 0 0 l
 have hkey:MapKept.IsKey (.int .i64) (.int .i64 ky):=by trivial
 have hb:w.heap[b]?=some (.map (ji 0 (jK l)).toArray (jK l).length):=H.hp.own _ (lV hi)
 have hst:=asZ (l:=jK l) (by rw [agR];exact hnd)
 have hks:(ji 0 (jK l)).toArray.toList.map (·.key)=l.map (Value.int .i64):=by
  show (ji 0 (jK l)).map (·.key)=_
  rw [XK,List.map_map];rfl
 have h2:=fun es':Array MapEntry=>Y5 (o:=.map es' (jK l).length) hb
 have h3:=MapKept.run_findKey (P:=P) (w:=w) (l:=(ji 0 (jK l)).toArray.toList) hk (by simpa using hf)
 rcases han with ⟨hm2,n,rfl,hn⟩|⟨hm2,rfl⟩
 ·have hnl:n < l.length:=(jZ.1 hn).1
  have hln:l[n]=ky:=(jZ.1 hn).2
  have hsz:n < (ji 0 (jK l)).toArray.size:=by
   have:=cO List.length hks
   simp at this
   simp;omega
  have aqB:((ji 0 (jK l)).toArray.eraseIdxIfInBounds n).toList=(ji 0 (jK l)).toArray.toList.eraseIdx n:=by
   unfold Array.eraseIdxIfInBounds
   rw [dif_pos hsz]
   simp
  refine gq (v:=.tuple #[]) (w':={ w with heap:=w.heap.setIfInBounds b (.map ((ji 0 (jK l)).toArray.eraseIdxIfInBounds n) (jK l).length) }) hw rfl ?_
   (k _ _ _ (MapKept.stamped_erase hst n) ?_ (H.move (H.hp.upd hi (h2 _))))
  ·generalize (ji 0 (jK l)).toArray=es at hb h3 |-
   have h1:=MapKept.run_checkKey (P:=P) (w:=w) hk hkey es.isEmpty 9999
   simp [execOp,resolve,invoke,builtin,Builtin.delete_,H.ev hx,H.ev hy,dY,nZ hm,MapKept.run_getObj_map hb,h1,h3,MapKept.run_setObj_map _ hb,Result.andThen]
  ·rw [aqB,XL,hks,<- XL]
   congr 1
   have he:l.erase ky=l.eraseIdx n:=by
    have:=hnd.idxOf_getElem n hnl
    rw [hln] at this
    rw [<- this];exact List.erase_eq_eraseIdx_of_idxOf rfl
   rw [<- he,hnd.erase_eq_filter]
   exact List.filter_congr fun x _=>by by_cases h:x=ky <;> simp [h]
 ·refine gq (v:=.tuple #[]) (w':={ w with heap:=w.heap.setIfInBounds b (.map (ji 0 (jK l)).toArray (jK l).length) }) hw rfl ?_ (k _ _ _ hst ?_ (H.move (H.hp.upd hi (h2 _))))
  ·generalize (ji 0 (jK l)).toArray=es at hb h3 |-
   have h1:=MapKept.run_checkKey (P:=P) (w:=w) hk hkey es.isEmpty 9999
   simp [execOp,resolve,invoke,builtin,Builtin.delete_,H.ev hx,H.ev hy,dY,nZ hm,MapKept.run_getObj_map hb,h1,h3,MapKept.run_setObj_map _ hb,Result.andThen]
  ·rw [hks,List.filter_eq_self.2 fun x hx=>mM (show ¬ x=ky from fun e=>hm2 (e ▸ hx))]
end
end
theorem anz:aQ 90:=aR func90 rfl
theorem anx:aQ 89:=aR func89 rfl
theorem acw:aQ 87:=aR func87 rfl
theorem amZ:aQ 38:=aR func38 rfl
def refs (h:dN):List Int:=h.marks.ins :: (h.marks.bJ.map gJ.rev++h.marks.layers.map bZ.rev)
def tQ (K l:List Int):List Int:=l.foldl yE K
theorem O6 (K l r:List Int):tQ K (l++r)=tQ (tQ K l) r:=List.foldl_append
theorem O7 {l:List Int}:∀ {K:List Int} {y:Int},y∈tQ K l↔y∈K∨y∈l:=by
 induction l with
 | nil=>intro K y;simp [tQ]
 | cons x l ih =>
  intro K y
  show y∈tQ (yE K x) l↔_
  rw [ih,aiE,iy,or_assoc]
theorem aaf {l:List Int}:∀ {K:List Int},K.Nodup->(tQ K l).Nodup:=by
 induction l with
 | nil=>intro K h;exact h
 | cons x l ih=>intro K h;exact ih (aiF h)
theorem aiG {K:List Int} {x:Int} {α:Type} {f:α->Int} {A:List α} {k:Nat} (hk:k < A.length):yE (tQ K (x :: (A.take k).map f)) (f A[k])=tQ K (x :: (A.take (k+1)).map f):=by
 rw [kg hk,lW,<- pG,O6];rfl
theorem aiH {K B:List Int} {x:Int} {α:Type} {f:α->Int} {A:List α} {k:Nat} (hk:k < A.length):yE (tQ K (x :: (B++(A.take k).map f))) (f A[k])=tQ K (x :: (B++(A.take (k+1)).map f)):=by
 rw [kg hk,lW,show x :: (B++((A.take k).map f++[A[k]].map f))=(x :: (B++(A.take k).map f))++[f A[k]] from by simp,O6];rfl
abbrev CW (b3 bm:Nat) (K:List Int):OL:=[(b3,.cells #[.map (some bm)] 131 (0,0)),(bm,fK (jK K))]
set_option maxHeartbeats 2000000 in
theorem afH (G:GH) (w0:World) (b3 bm:Nat) (K:List Int) (h:dN) (p d y:Option Addr × Nat × Nat) (hR:jq G h (aW p) (aW d) (aW y)) (hO:gY G (CW b3 bm K) w0) :
  Calls prog 87 #[.agg #[aW p,vi h.marks.ins,vi h.marks.move,aW d,aW y],(aK b3 0)] w0 (gF w0 G (CW b3 bm K) fun _ G' L'=>L'=CW b3 bm (tQ K (refs h))):=by
 obtain ⟨dA,dn,dc⟩:=d;obtain ⟨yA,yn,yc⟩:=y;have hml:maxLen=9223372036854775807:=rfl;have hd:=hR.bJ;have hy:=hR.layers;dsimp only [aW] at hd hy;have e1:=hd.len;have e2:=hy.len;rw [bQ] at e1 e2;subst e1 e2;obtain ⟨_,_,hu1,hd1,hd2,-⟩:=hd.slice;obtain ⟨_,_,hu2,hy1,hy2,-⟩:=hy.slice
 injection hu1 with q1 q2 q3
 subst q1 q3
 injection hu2 with q1 q2 q3
 subst q1 q3;rw [bQ] at hd1 hy1;refine jD (N:=35) (T:=[(0,_),(1,_)]) func87 rfl ntmps87 rfl rfl hO ?_;intro a H;refine dz (fun _ K1=>?_);refine eB (cs:=[_,_,_,_,_]) H wn rfl rfl rfl ?_;clear H;intro b2 a w hb2 H;refine K1 _ _ ?_;clear K1;refine kP H (SR fun _ K2=>Ro vk 1 rfl (Rf qp rfl (bO sV aG 0 rfl rfl ?_)));clear H;intro a H;refine Yw (i:=2) yC mJ H wn rfl rfl rfl rfl ?_;clear H;intro w H;dsimp only [List.set] at H;refine K2 _ _ ?_;clear K2;refine kP H (SQ fun _ K3=>SR fun _ K4=>Rf qp rfl (bO uj uD 0 rfl rfl (Rl oJ rfl (Rm rfl (Kz K4 (SB ?_))))));clear H K4;intro a H;skip;refine fF (ι:=Nat) (Tc:=[(1,_),(2,_),(13,_),(14,_)]) (Lc:=[(_,_),(_,_)]) (fun gh=>[(15,vi gh)]) (fun gh=>[(bm,fK (jK (tQ K (h.marks.ins :: (h.marks.bJ.take gh).map gJ.rev))))]) (fun gh=>G) (fun gh=>gh<=h.marks.bJ.length) (fun gh=>h.marks.bJ.length - gh) (0) (by exact H.sub ⟨rfl,rfl,rfl,rfl,rfl,ay⟩) ?_ ?_
 ·exact lu _
 clear H;intro i a w hI H;have hi:=hI;dsimp only [lca,bM] at H;refine kP H (SR fun _ K5=>Rc rfl (Kz K5 (SQ fun _ K6=>Cd rfl ?_ ?_))) <;> clear H K5
 ·intro h16 a H
  try have p16:=dT h16
  have hi2:i < h.marks.bJ.length:=by omega
  obtain ⟨b,o,rfl,hrow⟩:=PZ hd hi2;refine kP H (Kc K6 (SQ fun _ K7=>SB (SR fun _ K8=>Ri oJ oI rfl rfl ?_)));clear H K6;intro a H;refine aV oI (cs:=[_,_]) H wn rfl rfl (fun j v hj=>H.hp.aI (hrow j v hj)) rfl ?_;clear H;intro a H;refine dP oI H wn rfl ?_;clear H;intro b4 a w hb4 H;refine bK oI 0 (vs:=[_,_]) H wn rfl ?_;clear H;intro w H;refine K8 _ _ ?_;clear K8;refine kP H (SC (Ro vk 2 rfl (bO EL aG 0 rfl rfl ?_)));clear H;intro a H;refine Yw (i:=3) yC mJ H wn rfl rfl rfl rfl ?_;clear H;intro w H;dsimp only [List.set] at H;rw [aiG hi2] at H;refine kH H (Kn K7 (SC (Rd rfl (Rm rfl ?_))));clear H K7;intro a H;refine aB ?_;refine dJ (i+1) (by exact (H.fG (Pl:=[_,_,_,_]) (eH:=[_,_,_]) [1,2,3] (by decide) rfl).sub ⟨rfl,rfl,rfl,rfl,rfl,ay⟩) ?_
  omega
 intro h16 a H
 try have p16:=dF h16
 obtain rfl:i=h.marks.bJ.length:=by omega
 rw [zF] at H;refine eu ?_;refine K3 _ _ ?_;clear K3;refine kP H (SR fun _ K9=>Rf qp rfl (bO Av Bu 0 rfl rfl (Rl kW rfl (Rm rfl (Kz K9 (SB ?_))))));clear H K9;intro a H;skip;refine fF (ι:=Nat) (Tc:=[(1,_),(25,_),(26,_)]) (Lc:=[(_,_),(_,_)]) (fun gh=>[(27,vi gh)]) (fun gh=>[(bm,fK (jK (tQ K (h.marks.ins :: (h.marks.bJ.map gJ.rev++(h.marks.layers.take gh).map bZ.rev)))))]) (fun gh=>G) (fun gh=>gh<=h.marks.layers.length) (fun gh=>h.marks.layers.length - gh) (0) (by exact (by rw [List.take_zero,rV,iF];exact (H.sub ⟨rfl,rfl,rfl,rfl,ay⟩))) ?_ ?_
 ·exact lu _
 clear H;intro k a w hI H;have hk:=hI;dsimp only [lca,bM] at H;refine kP H (SR fun _ aS=>Rc rfl (Kz aS (SQ fun _ bH=>Cd rfl ?_ ?_))) <;> clear H aS
 ·intro gD a H
  try have p28:=dT gD
  have hk2:k < h.marks.layers.length:=by omega
  obtain ⟨b,o,rfl,hrow⟩:=Fv hy hk2;refine kP H (Kc bH (SQ fun _ bT=>SB (SR fun _ cK=>Ri kW jB rfl rfl ?_)));clear H bH;intro a H;refine aV jB (cs:=[_,_,_,_]) H wn rfl rfl (fun j v hj=>H.hp.aI (hrow j v hj)) rfl ?_;clear H;intro a H;refine dP jB H wn rfl ?_;clear H;intro b6 a w hb6 H;refine bK jB 0 (vs:=[_,_,_,_]) H wn rfl ?_;clear H;intro w H;refine cK _ _ ?_;clear cK;refine kP H (SC (Ro vk 2 rfl (bO P9 aG 0 rfl rfl ?_)));clear H;intro a H;refine Yw (i:=3) yC mJ H wn rfl rfl rfl rfl ?_;clear H;intro w H;dsimp only [List.set] at H;rw [aiH hk2] at H;refine kH H (Kn bT (SC (Rd rfl (Rm rfl ?_))));clear H bT;intro a H;refine aB ?_;refine dJ (k+1) (by exact (H.fG (Pl:=[_,_,_,_]) (eH:=[_,_,_]) [1,2,3] (by decide) rfl).sub ⟨rfl,rfl,rfl,rfl,ay⟩) ?_
  omega
 intro gD a H
 try have p28:=dF gD
 obtain rfl:k=h.marks.layers.length:=by omega
 rw [zF] at H;refine eu ?_;refine (leave0 H results87 ?_).2;exact H.hp.ng (L':=CW b3 bm _) (by repeat (first|exact lX _|apply List.Sublist.cons)) rfl
def KN (d:gu):List Int:=(kC d.flow).flatMap refs++refs d.fin
def nN (d:gu):List Int:=(tQ [] (KN d)).filter fun q=>decide (q≠0)
theorem atD {G:GH} {b3 bm:Nat} {hs:List dN}:Zl prog (.func (.func 87) #[] #[(aK b3 0)]) G (hs.map HY) fun k _ L=>L=CW b3 bm (tQ [] ((hs.take k).flatMap refs)):=by
 rintro k args G1 L w ⟨p,hp,h⟩ hG rfl hO;rw [tT] at hp;obtain ⟨x,hx,rfl⟩:=qU.1 hp;obtain ⟨q1,q2,q3,rfl,hR⟩:=h;obtain ⟨hk,rfl⟩:=jZ.1 hx;refine jv (caps:=[(aK b3 0)]) acw ((afH G1 w b3 bm _ hs[k] q1 q2 q3 hR hO).mono ?_);rintro e w' ⟨v,G',L',rfl,hc,rfl⟩;exact ⟨v,G',_,rfl,hc,by show CW b3 bm _=CW b3 bm (tQ [] ((hs.take (k+1)).flatMap refs));rw [kg hk,List.flatMap_append,O6];simp⟩
theorem akG (G:GH) (w0:World) (hG:Hold G w0) (D:jh) (d:gu) (hR:kX G D d) (hz:dx d.flow<=4294967296) (hw:∀ k∈nN d,-9223372036854775808<=k∧k < 9223372036854775808) (hl:(nN d).length<=4294967296) :
  Calls prog 38 #[D.val] w0 (bE w0 G fun u G'=>ak G' (.sl 1 ((zX (nN d)).map fun k=>[li k])) u):=by
 refine eN [(0,_)] func38 rfl ntmps38 rfl rfl hG ?_;intro a H;refine dz (fun _ K1=>?_);refine eB (cs:=[_,_,_,_,_,_,_,_,_,_,_]) H wn rfl rfl rfl ?_;clear H;intro b1 a w hb1 H;refine kH H (aj K1 rfl (SQ fun _ K2=>?_));clear H K1;intro a H;obtain ⟨Ga,hma,hb1',HQ⟩:=H.fO;clear H;have H:=HQ;clear HQ;have hga:=fun j v hj=>nu hb1' 0 D.cells rfl j v hj
 have hgd:∀ j v,[aW D.p,vi d.fin.marks.ins,vi d.fin.marks.move,aW D.d,aW D.y][j]?=some v->aI Ga b1 (1+j)=some v:=fun j v hj=>by rw [<- hR.ins,<- hR.mv] at hj;exact nu hb1' 1 [aW D.p,vi D.ins,vi D.move,aW D.d,aW D.y] rfl j v hj
 replace hR:=hR.mono hma;refine pV ?_;refine IQ H wn rfl ?_;clear H;intro b5 a w hb5 H;refine dP vk H wn rfl ?_;clear H;intro b3 a w hb3 H;refine bK vk 0 (vs:=[_]) H wn rfl ?_;clear H;intro w H;refine aB ?_;refine K2 _ _ ?_;clear K2;refine dz (fun _ K3=>?_);refine qd H wn rfl rfl ?_;clear H;intro a H;refine kH H (aj K3 rfl (SR fun _ K4=>Rf vO rfl (Rg kV rfl (hga 0 _ rfl) (Rm rfl ?_))));clear H K3;intro a H;refine iE Vf (Li:=[]) (L:=CW b3 b5 []) H wn rfl (adJ 4294967297 (by omega) _ Ga ((kC d.flow).map HY) (fun k _ L=>L=CW b3 b5 (tQ [] (((kC d.flow).take k).flatMap refs))) Ga _ _ 0 d.flow _ (fun _ _ h=>h) atD (fun _ _ _ _ _ h=>h) rfl (Hp.owns (Li:=[]) H.hp) hR.fl (by omega) (fun i a h=>by rw [iA,tT,h];rfl)) rfl ?_;clear H;rintro v10 BD L10 a w rfl DT H;rw [iA,zF] at H;dsimp only [List.nil_append] at H;refine K4 _ _ ?_;clear K4;refine kP H (SR fun _ K5=>Rm rfl (Rf Cj rfl ?_));clear H;intro a H;refine aV dW (cs:=[aW D.p,vi d.fin.marks.ins,vi d.fin.marks.move,aW D.d,aW D.y]) H wn rfl rfl (fun j v hj=>H.hp.aI (aF DT (hgd j v hj))) rfl ?_;clear H;intro a H;refine Eh (Li:=[]) (L:=CW b3 b5 _) H wn rfl rfl (jv (caps:=[(aK b3 0)]) acw (afH _ _ b3 b5 _ d.fin D.p D.d D.y (hR.hd.mono DT) (Hp.owns (Li:=[]) H.hp))) rfl ?_;clear H;rintro v14 Dc L14 a w rfl DV H;rw [<- O6] at H;dsimp only [List.nil_append] at H;refine K5 _ _ ?_;clear K5;refine kP H (SR fun _ K6=>Ro vk 0 rfl ?_);clear H;intro a H;refine avJ (i:=1) yC mJ (aaf List.nodup_nil) H wn rfl rfl rfl ?_;clear H;intro es clock w hst hks H;dsimp only [List.set] at H;refine K6 _ _ ?_;clear K6;refine kP H (SR fun _ K7=>Ro vk 0 rfl ?_);clear H;intro a H;refine s_call anz H wn rfl (ata _ _ H.ro _) rfl ?_;clear H;rintro v17 zu a w ⟨bx,rfl,hbx⟩ sw H;refine s_call anx H wn rfl (awT _ _ H.ro b5 bx clock es (nN d) hbx (H.hp.own (b5,.map es clock) (by simp)) hst hks hw hl) rfl ?_;clear H;rintro v18 Zq a w QS hm18 H;exact kH H (aj K7 rfl (LR results38 rfl fun H=>H.rt QS))
theorem Wx {C:bC} {e:Int} {h:dN} (hE:iM C e h=0):∀ q∈refs h,q=0∨q∈C.kM:=by
 have z:=lD hE;have h3:=z (jW C h.marks) (by simp);have h4:=z (iW (uh C h.marks.bJ) h.marks.bJ.length) (by simp);have h6:=z (iW (xW C e h.marks.layers) h.marks.layers.length) (by simp);intro q hq
 unfold refs at hq
 rcases iy.1 hq with rfl|hq
 ·unfold jW at h3
  by_cases h0:h.marks.ins=0
  ·exact .inl h0
  refine .inr (Classical.byContradiction fun hn=>?_);rw [aD ⟨h0,hn⟩] at h3;cases h3
 rcases jS.1 hq with hq|hq
 ·obtain ⟨x,hx,rfl⟩:=List.mem_map.1 hq;obtain ⟨k,hk,rfl⟩:=List.getElem_of_mem hx;have h5:=BU h4 k hk
  unfold uh at h5
  rw [eD hk] at h5;dsimp only [uQ] at h5;refine .inr (Classical.byContradiction fun hn=>?_);rw [aD hn] at h5;cases h5
 obtain ⟨x,hx,rfl⟩:=List.mem_map.1 hq;obtain ⟨k,hk,rfl⟩:=List.getElem_of_mem hx;have h5:=BU h6 k hk
 unfold xW at h5
 rw [eD hk] at h5;dsimp only [wX] at h5;refine .inr (Classical.byContradiction fun hn=>?_);rw [aD hn] at h5;cases h5
def qC (C:bC) (L:List dN):Prop:=∀ h∈L,∃ e,iM C e h=0
theorem qC.nil (C:bC):qC C []:=fun _ h=>by cases h
theorem qC.cons {C:bC} {e:Int} {h:dN} {L:List dN} (h1:iM C e h=0) (h2:qC C L):qC C (h :: L):=fun x hx=>by
 rcases iy.1 hx with rfl|hx
 ·exact ⟨e,h1⟩
 exact h2 x hx
theorem qC.app {C:bC} {A B:List dN} (h1:qC C A) (h2:qC C B):qC C (A++B):=fun x hx=>(jS.1 hx).elim (h1 x) (h2 x)
mutual
theorem aqZ (C:bC) (body note:Bool) (t:Int):∀ (x:au) (s s':CS),fU C body note t x s=(0,s')->qC C (AO x)
 | .mk k c i tx h f r,s,s',e=>by
  have hf:=QI C false true t f;have hr:=aej C note (t+1) r;rw [fU] at e;(iterate 2 obtain ⟨-,e⟩:=nS e);obtain ⟨e1,e⟩:=nS e;rw [AO];refine qC.cons e1 ?_
  by_cases h6:k=6
  ·rw [aD h6] at e |-;rw [av (show ¬ k=7 by omega),iF];exact hf _ _ e
  rw [av h6] at e |-;rw [nQ]
  by_cases h7:k=7
  ·rw [aD h7] at e |-;exact hr _ _ (Yj e).2
  rw [av h7];exact qC.nil C
theorem QI (C:bC) (body note:Bool) (t:Int):∀ (l:List au) (s s':CS),jO C body note t l s=(0,s')->qC C (kC l)
 | [],_,_,_=>by rw [kC];exact qC.nil C
 | x :: r,s,s',e=>by
  rw [jO] at e;obtain ⟨e1,e⟩:=nS e;rw [kC];exact (aqZ C body note t x s _ (Prod.ext e1 rfl)).app (QI C body note t r _ _ e)
theorem ara (C:bC) (note:Bool) (t:Int):∀ (x:aU) (s s':CS),zU C note t x s=(0,s')->qC C (EY x)
 | .mk h cs,s,s',e=>by
  have hc:=aei C note t cs;rw [zU] at e;obtain ⟨e1,e⟩:=nS e;rw [EY];exact qC.cons (lD e1 _ fE) (hc _ _ e)
theorem aej (C:bC) (note:Bool) (t:Int):∀ (l:List aU) (s s':CS),jf C note t l s=(0,s')->qC C (pY l)
 | [],_,_,_=>by rw [pY];exact qC.nil C
 | x :: r,s,s',e=>by
  rw [jf] at e;obtain ⟨e1,e⟩:=nS e;rw [pY];exact (ara C note t x s _ (Prod.ext e1 rfl)).app (aej C note t r _ _ e)
theorem aqY (C:bC) (note:Bool) (t:Int):∀ (x:aX) (s s':CS),cellC C note t x s=(0,s')->qC C (EW x)
 | .mk i h f,s,s',e=>by
  have hf:=QI C false note t f;rw [cellC] at e;obtain ⟨-,e⟩:=nS e;obtain ⟨e1,e⟩:=nS e;rw [EW];exact qC.cons e1 (hf _ _ e)
theorem aei (C:bC) (note:Bool) (t:Int):∀ (l:List aX) (s s':CS),qV C note t l s=(0,s')->qC C (qH l)
 | [],_,_,_=>by rw [qH];exact qC.nil C
 | x :: r,s,s',e=>by
  rw [qV] at e;obtain ⟨e1,e⟩:=nS e;rw [qH];exact (aqY C note t x s _ (Prod.ext e1 rfl)).app (aei C note t r _ _ e)
end
theorem RO {d:gu} (hc:iK d=0):∀ q∈KN d,q=0∨q∈d.revs.map bV.id:=by
 have z:=lD hc;have h2:=z (dS [iM d.kG 3 d.fin,dG (uz d.fin.marks) 21]) (by simp);have h3:=z (jO d.kG true false 0 d.flow ⟨0,[]⟩).1 (by simp);have hi:=QI d.kG true false 0 d.flow _ _ (UC h3);intro q hq
 unfold KN at hq
 rcases jS.1 hq with hq|hq
 ·obtain ⟨h,hh,hq⟩:=List.mem_flatMap.1 hq;obtain ⟨e,he⟩:=hi h hh;exact Wx he q hq
 exact Wx (lD h2 _ fE) q hq
theorem agm {d:gu} (hc:iK d=0):(d.revs.map bV.id).Pairwise (· < ·)∧∀ q∈d.revs.map bV.id,1<=q∧q<=1073741824:=by
 have h:=lD (lD hc _ fE) (Dt d.revs) (by simp);have h1:=lD h _ (fE);have h2:=lD h _ (gV _ fE)
 have hl:d.revs.length<=256:=by
  unfold dG at h1
  by_cases hd:256 < (d.revs.length:Int)
  ·rw [aD (aH hd)] at h1;cases h1
  omega
 have hi:∀ i (hi:i < d.revs.length),1<=d.revs[i].id∧d.revs[i].id<=1073741824∧(∀ k (hk:k < d.revs.length),k+1=i->d.revs[k].id < d.revs[i].id):=by
  intro i hi;have h3:=BU h2 i (by omega)
  unfold CJ at h3
  rw [eD hi] at h3;have h4:=Nw (lD h3 _ fE);rw [eD hi] at h4;refine ⟨h4.1,h4.2.1,fun k hk e=>?_⟩;subst e;have h5:=h4.2.2 (by omega);rw [Nat.add_sub_cancel,eD hk] at h5;exact h5
 refine ⟨List.pairwise_iff_getElem.2 ?_,fun q hq=>?_⟩
 ·intro i j hi' hj hij;rw [bQ] at hi' hj;rw [List.getElem_map,List.getElem_map]
  induction j with
  | zero=>omega
  | succ j ih =>
   have h1:=(hi (j+1) hj).2.2 j (by omega) rfl
   by_cases e:i=j
   ·subst e;exact h1
   exact Int.lt_trans (ih (by omega) (by omega) (by omega)) h1
 obtain ⟨x,hx,rfl⟩:=List.mem_map.1 hq;obtain ⟨k,hk,rfl⟩:=List.getElem_of_mem hx;exact ⟨(hi k hk).1,(hi k hk).2.1⟩
theorem axE {d:gu} (hc:iK d=0) {q:Int} (h:q∈nN d):1<=q∧q<=1073741824:=by
 unfold nN at h
 rw [List.mem_filter,pF,O7] at h;obtain ⟨h1|h1,h2⟩:=h
 ·cases h1
 exact (agm hc).2 q ((RO hc q h1).resolve_left h2)
theorem axD {d:gu} (hc:iK d=0):(nN d).length<=d.revs.length:=by
 obtain ⟨hi,-⟩:=agm hc
 have hnd:(d.revs.map bV.id).Nodup:=hi.imp fun h=>by omega
 have hu:(nN d).Nodup:=(aaf List.nodup_nil).sublist List.filter_sublist
 have hp:=(List.perm_ext_iff_of_nodup (hnd.sublist (List.filter_sublist (p:=fun q=>decide (q∈nN d)))) hu).2 fun q=>by
  rw [List.mem_filter,pF];refine ⟨fun h=>h.2,fun h=>⟨?_,h⟩⟩;have h1:=h
  unfold nN at h1
  rw [List.mem_filter,pF,O7] at h1;obtain ⟨h2|h2,h3⟩:=h1
  ·cases h2
  exact (RO hc q h2).resolve_left h3
 rw [<- hp.length_eq];exact Nat.le_trans (List.length_filter_le _ _) (by rw [bQ];exact eP _)
theorem akZ:aQ 113:=aR func113 rfl
theorem NT (G:GH) (x:bV):bD G x.dat x.cells:=by
 simp only [bV.dat,bV.cells,bD]
 exact aay
def pQ (l:List bV):List ah:=(l.map bV.cells).flatten
theorem Sb:∀ l:List bV,(pQ l).length=l.length*3
 | []=>rfl
 | p :: l=>by
  have:=Sb l
  simp only [pQ,fH,List.flatten_cons,jM] at this |-
  rw [this,show p.cells.length=3 from rfl,lg];omega
theorem Yr:∀ {l:List bV} {k:Nat} (h:k < l.length) (j:Nat),j < 3->(pQ l)[k*3+j]?=l[k].cells[j]?
 | p :: l,0,_,j,hj=>by
  simp only [pQ,fH,List.flatten_cons,Nat.zero_mul,iA,List.getElem_cons_zero]
  rw [zD (by rw [show p.cells.length=3 from rfl];exact hj)]
 | p :: l,k+1,h,j,hj=>by
  have ih:=Yr (l:=l) (k:=k) (by simpa using h) j hj
  simp only [pQ,fH,List.flatten_cons,List.getElem_cons_succ] at ih |-
  rw [uM (by rw [show p.cells.length=3 from rfl];omega),show p.cells.length=3 from rfl,show (k+1)*3+j - 3=k*3+j by omega];exact ih
theorem Yq (l m:List bV):pQ (l++m)=pQ l++pQ m:=by simp [pQ]
theorem ave {w0 w:World} {F:Nat->Prop} {G0 G:GH} {L Lo:OL} {e c n:Nat} {A:Option Addr} {l:List bV} (h:dR e 3 (.slice A n c) n (pQ l) Lo) (hn:n=l.length) (H:Hp w0 F G0 G L w) (hsub:∀ x∈Lo,x∈L) {k:Nat} (hk:k < l.length) :
  ∃ b,A=some ⟨b,0,none⟩∧∀ j u,[vi l[k].id,.string l[k].author,vi l[k].time][j]?=some u->w.cell? ⟨b,0+k*3+j,none⟩=some u:=by
 rcases h.2 with ⟨_,h0,_⟩|⟨b,cap,cur,he,hl,h1,h2,h3,h4⟩
 ·omega
 injection he with e1 e2 e3
 refine ⟨b,e1,fun j u hu=>?_⟩
 have hj:j < 3:=by have:=(jZ.1 hu).1;simpa using this
 refine H.CG (c:=cur) (e:=e) (fz:=(0,0)) (hsub _ (by rw [hl];exact List.mem_singleton_self _)) ?_;have h5:=Yr hk j hj;rw [<- h4,uL,nE,Array.getElem?_toList] at h5;rw [show 0+k*3+j=k*3+j by omega,h5];exact hu
theorem aaI {p:Prop} (h:p:=by
 first
  | exact H.hp.gT ⟨rfl,by rw [Xp hk2 hno h16];rfl⟩
  | exact H.hp.gT ⟨rfl,by rw [show l.take k=l from jm (by omega)] at hno;rw [hno];rfl⟩):p:=h
theorem asf {G:GH} {w0:World} {Lo:OL} {v fv:ah} (l:List bV) (p:bV->Bool) (hO:gY G Lo w0) (hrw:dR 102 3 v l.length (pQ l) Lo) (hf:∀ x∈l,uJ fv G x.dat (p x)) :
  Calls prog 113 #[v,fv] w0 (gF w0 G Lo fun u G' L'=>L'=Lo∧u=vi (oG (l.findIdx? p))):=by
 obtain ⟨A,c,rfl,hc1,hc2⟩:=hrw.shape;have hml:maxLen=9223372036854775807:=rfl;refine jD (N:=19) (T:=[(0,_),(1,_)]) func113 rfl ntmps113 rfl rfl hO ?_;intro a H;refine kP H (SR fun _ K1=>aj K1 rfl (SQ fun _ K2=>SR fun _ K3=>Rm rfl (Rl oh rfl (Rm rfl (Kz K3 (SB ?_))))));clear H K1 K3;intro a H;skip;refine fF (ι:=Nat × GH) (Tc:=[(0,_),(1,_),(7,_)]) (Lc:=[]) (fun gh=>[(8,vi gh.1)]) (fun gh=>[]++Lo) (fun gh=>gh.2) (fun gh=>gh.1<=l.length∧(l.take gh.1).findIdx? p=none∧(∀ b o,G b=some o->gh.2 b=some o)) (fun gh=>l.length - gh.1) ((0,G)) (by exact H.sub ⟨rfl,rfl,rfl,rfl,ay⟩) ?_ ?_
 ·exact rW
 clear H;rintro ⟨k,g⟩ a w hI H;dsimp only at hI H;obtain ⟨hk,hno,hgm⟩:=hI;dsimp only [lca,bM] at H;refine kP H (SR fun _ K4=>Rc rfl (Kz K4 (SQ fun _ K5=>Cd rfl ?_ ?_))) <;> clear H K4
 ·intro h9 a H
  try have p9:=dT h9
  have hk2:k < l.length:=by omega
  obtain ⟨b,rfl,hrow⟩:=ave hrw rfl H.hp (fun x hx=>by first|exact hx|exact gV _ hx|simpa using hx) hk2;refine kP H (Kc K5 (SQ fun _ K6=>SB (SR fun _ K7=>Rm rfl (aj K7 rfl (SR fun _ K8=>Rm rfl (Rm rfl (Rm rfl (Ri oh og rfl rfl ?_))))))));clear H K5 K7;intro a H;refine aV og (cs:=[vi l[k].id,.string l[k].author,vi l[k].time]) H wn rfl rfl hrow rfl ?_;clear H;intro a H;refine jJ H wn rfl rfl (hf _ (lC hk2) _ _ _ hgm H.ro (NT _ l[k])) rfl ?_;clear H;rintro v16 ql a w rfl nA H;refine K8 _ _ ?_;clear K8;refine jr H rfl ?_ ?_
  ·intro h16
   try have p16:=dT h16
   refine kP H (SR fun _ K9=>Rm rfl (aj K9 rfl ?_));clear H K9;intro a H;refine lr H results113 rfl ?_
   exact aaI
  intro h16
  try have p16:=dF h16
  refine kP H (Kc K6 (SC (Rd rfl (Rm rfl ?_))));clear H K6;intro a H;refine aB ?_;refine dJ ((k+1,ql)) (by exact H.sub ⟨rfl,rfl,rfl,rfl,ay⟩) ?_
  (try dsimp only);exact ED
 intro h9 a H
 try have p9:=dF h9
 refine eu ?_;refine K2 _ _ ?_;clear K2;refine kP H (SR fun _ aS=>aj aS rfl ?_);clear H aS;intro a H;refine lr H results113 rfl ?_
 exact aaI
theorem auT {G:GH} {l:List bV} {xs:List ah} (h:dK G 3 (l.map bV.dat) xs):xs=pQ l:=by
 obtain ⟨css,rfl,h2,h3⟩:=h;rw [bQ] at h2
 have e:css=l.map bV.cells:=by
  apply List.ext_getElem?
  intro j;rw [tT]
  by_cases hj:j < l.length
  ·have h4:=(h3 j l[j].dat css[j] (by simp [hj]) (eD (by omega))).1;rw [eD hj,eD (by omega),NS h4];rfl
  rw [List.getElem?_eq_none (by omega),List.getElem?_eq_none (by omega)];rfl
 rw [e];rfl
theorem auI {l:List bV} {p:bV->Bool} {i:Nat} (h:l.findIdx? p=some i):∃ hi:i < l.length,(l.take (i+1)).filter (fun x=>!p x)=l.take i:=by
 obtain ⟨hi,h1,h2⟩:=List.findIdx?_eq_some_iff_getElem.1 h;refine ⟨hi,?_⟩;rw [kg hi,List.filter_append,List.filter_eq_self.2]
 ·simp [h1]
 intro x hx;obtain ⟨j,hj,rfl⟩:=List.getElem_of_mem hx;rw [List.getElem_take]
 have hj2:j < i:=by rw [List.length_take] at hj;omega
 have:=h2 j hj2
 simpa using this
theorem auJ {l:List bV} {p:bV->Bool} (h:l.findIdx? p=none):l.filter (fun x=>!p x)=l:=by
 rw [List.findIdx?_eq_none_iff] at h
 exact List.filter_eq_self.2 fun x hx=>by rw [h x hx];rfl
theorem auK {cl:List ah} {i:Nat} {x y z:ah} (h:i*3+3<=cl.length):(setRow cl (0+i*3) [x,y,z]).length=cl.length∧(setRow cl (0+i*3) [x,y,z]).take ((i+1)*3)=cl.take (i*3)++[x,y,z]∧∀ m,(i+1)*3<=m->(setRow cl (0+i*3) [x,y,z])[m]?=cl[m]?:=by
 have e:setRow cl (0+i*3) [x,y,z]=cl.take (i*3)++[x,y,z]++cl.drop (i*3+3):=by
  rw [iA,Sm _ _ _ (by simpa using h)];rfl
 have hl:(cl.take (i*3)++[x,y,z]).length=(i+1)*3:=by rw [jM,List.length_take];simp;omega
 refine ⟨YD ..,?_,fun m hm=>?_⟩
 ·rw [e,<- hl,List.take_left]
 rw [e,uM (by omega),hl,List.getElem?_drop];congr 1;omega
theorem auH {l:List bV} {cl:List ah} {i:Nat} (hi:i < l.length) (h:cl.take (l.length*3)=pQ l):cl.take (i*3)=pQ (l.take i):=by
 have e:cl.take (i*3)=(cl.take (l.length*3)).take (i*3):=by rw [List.take_take,Nat.min_eq_left (by omega)]
 have h2:pQ l=pQ (l.take i)++pQ (l.drop i):=by rw [<- Yq,List.take_append_drop]
 have h3:(pQ (l.take i)).length=i*3:=by rw [Sb,List.length_take];omega
 rw [e,h,h2,<- h3,List.take_left]
theorem auL {l:List bV} {p:bV->Bool} {j:Nat} (hj:j < l.length):(l.take (j+1)).filter (fun x=>!p x)=(l.take j).filter (fun x=>!p x)++if p l[j] then [] else [l[j]]:=by
 rw [kg hj,List.filter_append]
 cases h:p l[j] <;> simp [h]
set_option maxHeartbeats 1000000 in
theorem akE {G:GH} {w0:World} {Lo:OL} {v fv:ah} (l:List bV) (p:bV->Bool) (hO:gY G Lo w0) (hrw:dR 102 3 v l.length (pQ l) Lo) (hf:∀ x∈l,uJ fv G x.dat (p x)) :
  Calls prog 59 #[v,fv] w0 (gF w0 G Lo fun u G' L'=>dR 102 3 u (l.filter fun x=>!p x).length (pQ (l.filter fun x=>!p x)) L'):=by
 obtain ⟨A,c,rfl,hc1,hc2⟩:=hrw.shape;have hml:maxLen=9223372036854775807:=rfl;have hdl:=Sb l;refine jD (N:=42) (T:=[(0,_),(1,_)]) func59 rfl ntmps59 rfl rfl hO ?_;intro a H;refine kP H (SR fun _ K1=>aj K1 rfl (SR fun _ K2=>Rm rfl (Rm rfl ?_)));clear H K1;intro a H;refine iE akZ (Li:=[]) (L:=Lo) H wn rfl (asf l p (Hp.owns (Li:=[]) H.hp) hrw hf) rfl ?_;clear H;rintro v10 BD L10 a w ⟨rfl,rfl⟩ DT H;dsimp only [List.nil_append] at H;obtain ⟨o,ho⟩:∃ o,o=l.findIdx? p:=⟨_,rfl⟩;rw [<- ho] at H;refine kH H (aj K2 rfl (SQ fun _ K3=>SR fun _ K4=>Rm rfl (Rc rfl (Kz K4 (Cd rfl ?_ ?_))))) <;> clear H K2 K4
 ·intro h12 a H
  try have rM:=dT h12
  obtain rfl:o=none:=by cases o with|none=>rfl|some i=>first|(simp [oG] at rM;done)|(simp [oG] at rM;omega)
  exact kP H (SR fun _ K5=>Rm rfl (aj K5 rfl (LR results59 rfl fun H=>H.hp.gT (by rw [auJ ho.symm];exact hrw))))
 intro h12 a H
 try have rM:=dF h12
 obtain ⟨i0,rfl⟩:∃ i,o=some i:=by cases o with|none=>simp [oG] at rM|some i=>exact ⟨i,rfl⟩
 obtain ⟨hi0,hinit⟩:=auI ho.symm
 rcases hrw.2 with ⟨_,h0,_⟩|⟨b,cap,cur,he,rfl,hcap1,hcap2,hsz,htk⟩
 ·omega
 injection he with e1 e2 e3
 subst e1;subst e3;obtain ⟨cl0,rfl⟩:∃ cl:List ah,cur=cl.toArray:=⟨cur.toList,by simp⟩;rw [List.size_toArray] at hsz;dsimp only [oG] at H;refine kP H (Kc K3 (SQ fun _ K6=>SR fun _ K7=>Rm rfl (Rd rfl (aj K7 rfl (SB ?_)))));clear H K3 K7;intro a H;skip;refine fF (ι:=Nat × Nat × List ah × GH) (Tc:=[(0,_),(1,_)]) (Lc:=[]) (fun gh=>[(5,vi gh.2.1),(6,vi gh.1)]) (fun gh=>[(b,.cells gh.2.2.1.toArray 102 (0,0))]) (fun gh=>gh.2.2.2) (fun gh=>gh.2.1 < gh.1∧gh.1<=l.length∧gh.2.2.1.length=c*3∧gh.2.1=((l.take gh.1).filter fun x=>!p x).length∧gh.2.2.1.take (gh.2.1*3)=pQ ((l.take gh.1).filter fun x=>!p x)∧(∀ m,gh.1*3<=m->m < l.length*3->gh.2.2.1[m]?=(pQ l)[m]?)∧(∀ b o,G b=some o->gh.2.2.2 b=some o)) (fun gh=>l.length - gh.1) ((i0+1,i0,cl0,BD)) (by exact H.sub ⟨rfl,rfl,rfl,rfl,ay⟩) ?_ ?_
 ·exact ⟨Nat.lt_succ_self _,hi0,hsz,by rw [hinit,List.length_take];exact (Nat.min_eq_left (Nat.le_of_lt hi0)).symm,by rw [hinit];exact auH hi0 htk,fun m h1 h2=>by rw [<- htk,uL,aD h2],DT⟩
 clear H;rintro ⟨j,i,cl,g⟩ a w hI H;dsimp only at hI H;obtain ⟨hij,hj,hcl,hil,hkept,hrest,hgm⟩:=hI;dsimp only [lca,bM] at H;refine kP H (SQ fun _ K8=>SR fun _ K9=>Rm rfl (Rm rfl (Rl oh rfl (Rc rfl (Kz K9 (Cd rfl ?_ ?_)))))) <;> clear H K9
 ·intro h19 a H
  try have tJ:=dT h19
  have hj2:j < l.length:=by omega
  have hjc:∀ q u,[vi l[j].id,.string l[j].author,vi l[j].time][q]?=some u->cl.toArray[0+j*3+q]?=some u:=fun q u hq=>by
   have hq2:q < 3:=by have:=(jZ.1 hq).1;simpa using this
   rw [List.getElem?_toArray,iA,hrest _ (by omega) (by omega),Yr hj2 q hq2];exact hq
  have hdt:=auL (p:=p) hj2;refine kP H (Kc K8 (SQ fun _ aS=>SB (SR fun _ bH=>Rm rfl (Rm rfl (Ri oh og rfl rfl ?_)))));clear H K8;intro a H;refine aV og (cs:=[vi l[j].id,.string l[j].author,vi l[j].time]) H wn rfl rfl (fun q u hq=>H.hp.CG (c:=cl.toArray) fE (hjc q u hq)) rfl ?_;clear H;intro a H;refine dP og H wn rfl ?_;clear H;intro b7 a w zN H;refine bK og 0 (vs:=[_,_,_]) H wn rfl ?_;clear H;intro w H;refine bH _ _ ?_;clear bH;refine kP H (SR fun _ bT=>Rm rfl ?_);clear H;intro a H;refine aV og (cs:=[_,_,_]) H wn rfl rfl (H.hp.cB 0 rfl rfl) rfl ?_;clear H;intro a H;refine jJ H wn rfl rfl (hf _ (lC hj2) _ _ _ hgm H.ro (NT _ l[j])) rfl ?_;clear H;rintro v28 Tj a w rfl adU H;refine kH H (Rn rfl (Kz bT (Cd rfl ?_ ?_))) <;> clear H bT
  ·intro iB a H
   try have p29:=dT iB
   rw [av (by simpa using iB)] at hdt;have hds:=auK (cl:=cl) (i:=i) (x:=vi l[j].id) (y:=.string l[j].author) (z:=vi l[j].time) (by omega);refine kP H (SR fun _ cK=>Rm rfl (Rm rfl ?_));clear H;intro a H;refine aV og (cs:=[_,_,_]) H wn rfl rfl (H.hp.cB 0 rfl rfl) rfl ?_;clear H;intro a H;refine kH H (Ri oh og rfl rfl ?_);clear H;intro a H;refine KS og 1 (c:=cl) (vs:=[vi l[j].id,.string l[j].author,vi l[j].time]) _ H wn rfl rfl rfl rfl rfl rfl (Nat.ble_eq_true_of_le (by simp only [lg,List.length_nil];omega)) rfl ?_;clear H;intro w H;dsimp only [List.set] at H;refine cK _ _ ?_;clear cK;refine kP H (SC (Rm rfl (Rd rfl (bG aS rfl (SC (Rm rfl (Rd rfl (Ra rfl ?_))))))));clear H aS;intro a H;refine aB ?_;refine dJ ((j+1,i+1,setRow cl (0+i*3) [vi l[j].id,.string l[j].author,vi l[j].time],Tj)) (by exact (H.fG (Pl:=[_,_]) (eH:=[_]) [1] (by decide) rfl).sub ⟨rfl,rfl,rfl,rfl,ay⟩) ?_
   (try dsimp only);exact ⟨by omega,by omega,by rw [hds.1,hcl],by rw [hdt,jM,<- hil];rfl,by rw [hdt,Yq,<- hkept,hds.2.1];rfl,fun m h1 h2=>by rw [hds.2.2 m (by omega),hrest m (by omega) h2],fun b o h=>adU b o (hgm b o h)⟩
  intro iB a H
  try have p29:=dF iB
  rw [aD (by simpa using iB),iF] at hdt;refine kP H (Kc aS (SC (Rm rfl (Rd rfl (Ra rfl ?_)))));clear H aS;intro a H;refine aB ?_;refine dJ ((j+1,i,cl,Tj)) (by exact (H.fG (Pl:=[_,_]) (eH:=[_]) [1] (by decide) rfl).sub ⟨rfl,rfl,rfl,rfl,ay⟩) ?_
  (try dsimp only);exact ⟨by omega,by omega,hcl,by rw [hdt];exact hil,by rw [hdt];exact hkept,fun m h1 h2=>hrest m (by omega) h2,fun b o h=>adU b o (hgm b o h)⟩
 intro h19 a H
 try have tJ:=dF h19
 refine eu ?_;refine K6 _ _ ?_;clear K6;refine kP H (SR fun _ dB=>Rm rfl (Rm rfl ?_));clear H;intro a H;refine zW oh og i H wn rfl rfl rfl (by omega) rfl ?_;clear H;intro a H;rw [dL,wE,add_lit] at H;refine agK oh og rfl rfl 0 H wn rfl rfl (by omega) (by omega) ?_;clear H;intro cz w hz1 hz2 H;dsimp only [List.set] at H;refine dB _ _ ?_;clear dB;refine kP H (SR fun _ eU=>Rm rfl (Rm rfl ?_));clear H;intro a H;refine FL oh og i H wn rfl rfl rfl (by omega) rfl ?_;clear H;intro a H;refine kH H (aj eU rfl ?_);clear H eU;intro a H;refine lr H results59 rfl ?_
 obtain rfl:j=l.length:=by omega
 rw [zF] at hil hkept;exact H.hp.gT ⟨Sb _,.inr ⟨b,c,cz.toArray,by rw [<- hil],rfl,by omega,hcap2,by rw [List.size_toArray,hz1,hcl],by rw [<- hkept,<- hil];rw [iA] at hz2;exact hz2⟩⟩
theorem Ju {p:Prop} (h:p:=by
 exact H.hp.gT ⟨[],dR.nil,dK.nil⟩):p:=h
theorem Jv {p:Prop} (h:p:=by
 exact H.hp.gT ⟨[],dR.empty,dK.nil⟩):p:=h
theorem abk (G:GH) (w0:World) (hO:gY G [] w0) (rows:List (List Dat)) (A:Option Addr) (n c:Nat) (hv:ak G (.sl 3 rows) (.slice A n c)) (hz:rows.length<=4294967296) :
  Calls prog 60 #[.slice A n c] w0 (gF w0 G [] fun u G' L'=>∃ xs,dR 102 3 u rows.length xs L'∧dK G' 3 rows xs):=by
 obtain ⟨hn,hc1,hc2,hnil,hx⟩:=hv.cells;refine jD (N:=8) (T:=[(0,_)]) func60 rfl ntmps60 rfl rfl hO ?_;intro a H;refine kP H (SR fun _ K1=>aj K1 rfl (SQ fun _ K2=>SR fun _ K3=>Rm rfl ?_));clear H K1;intro a H;refine CQ oh H wn rfl rfl ?_;clear H;intro a H;refine K3 _ _ ?_;clear K3;refine jr H rfl ?_ ?_
 ·intro h4
  refine kP H (SR fun _ K4=>aj K4 rfl ?_);clear H K4;intro a H;refine lr H results60 rfl ?_;have hr0:=hnil (by simpa using h4);subst hr0;exact Ju
 intro h4
 try have p4:=dF h4
 refine iG ?_;refine K2 _ _ ?_;clear K2;refine bR (fun _ K5=>?_)
 have hA:¬ A=none:=by intro e;rw [e] at h4;cases h4
 refine pV ?_;refine CO oh og H wn rfl ?_;clear H;intro b5 a w hb5 H;refine kH H (Rm rfl ?_);clear H;intro a H
 by_cases hr0:rows=[]
 ·have hn0:n=0:=by rw [hn,hr0];rfl
  subst hn0;refine CK oh og H wn rfl rfl (eP _) rfl ?_;clear H;intro a H;refine kH H (bG K5 rfl ?_);clear H K5;intro a H;refine lr H results60 rfl ?_;subst hr0;exact Jv
 obtain ⟨b,o,xs,rfl,hxl,hxc,hx1,fQ⟩:=hx hr0;refine oZ (Li:=[]) (Lo:=[_]) (news:=xs) oh og rfl rfl H wn rfl rfl dR.empty hxl (fun j u hj=>H.hp.aI (hxc j u hj)) hx1 (by omega) (by omega) rfl ?_;clear H;intro v7 Lo a w hrow H;dsimp only [List.nil_append] at H;exact kH H (bG K5 rfl (LR results60 rfl fun H=>H.hp.gT ⟨_,by rw [iA,hn] at hrow;exact hrow,fQ⟩))
theorem akg (G:GH) (w0:World) (hO:gY G [] w0) (rows:List (List Dat)) (A:Option Addr) (n c:Nat) (hv:ak G (.sl 6 rows) (.slice A n c)) (hz:rows.length<=4294967296) :
  Calls prog 175 #[.slice A n c] w0 (gF w0 G [] fun u G' L'=>∃ xs,dR 192 6 u rows.length xs L'∧dK G' 6 rows xs):=by
 obtain ⟨hn,hc1,hc2,hnil,hx⟩:=hv.cells;refine jD (N:=8) (T:=[(0,_)]) func175 rfl ntmps175 rfl rfl hO ?_;intro a H;refine kP H (SR fun _ K1=>aj K1 rfl (SQ fun _ K2=>SR fun _ K3=>Rm rfl ?_));clear H K1;intro a H;refine CQ lQ H wn rfl rfl ?_;clear H;intro a H;refine K3 _ _ ?_;clear K3;refine jr H rfl ?_ ?_
 ·intro h4
  refine kP H (SR fun _ K4=>aj K4 rfl ?_);clear H K4;intro a H;refine lr H results175 rfl ?_;have hr0:=hnil (by simpa using h4);subst hr0;exact Ju
 intro h4
 try have p4:=dF h4
 refine iG ?_;refine K2 _ _ ?_;clear K2;refine bR (fun _ K5=>?_)
 have hA:¬ A=none:=by intro e;rw [e] at h4;cases h4
 refine pV ?_;refine CO lQ jg H wn rfl ?_;clear H;intro b5 a w hb5 H;refine kH H (Rm rfl ?_);clear H;intro a H
 by_cases hr0:rows=[]
 ·have hn0:n=0:=by rw [hn,hr0];rfl
  subst hn0;refine CK lQ jg H wn rfl rfl (eP _) rfl ?_;clear H;intro a H;refine kH H (bG K5 rfl ?_);clear H K5;intro a H;refine lr H results175 rfl ?_;subst hr0;exact Jv
 obtain ⟨b,o,xs,rfl,hxl,hxc,hx1,fQ⟩:=hx hr0;refine oZ (Li:=[]) (Lo:=[_]) (news:=xs) lQ jg rfl rfl H wn rfl rfl dR.empty hxl (fun j u hj=>H.hp.aI (hxc j u hj)) hx1 (by omega) (by omega) rfl ?_;clear H;intro v7 Lo a w hrow H;dsimp only [List.nil_append] at H;exact kH H (bG K5 rfl (LR results175 rfl fun H=>H.hp.gT ⟨_,by rw [iA,hn] at hrow;exact hrow,fQ⟩))
theorem akf (G:GH) (w0:World) (hO:gY G [] w0) (rows:List (List Dat)) (A:Option Addr) (n c:Nat) (hv:ak G (.sl 2 rows) (.slice A n c)) (hz:rows.length<=4294967296) :
  Calls prog 176 #[.slice A n c] w0 (gF w0 G [] fun u G' L'=>∃ xs,dR 93 2 u rows.length xs L'∧dK G' 2 rows xs):=by
 obtain ⟨hn,hc1,hc2,hnil,hx⟩:=hv.cells;refine jD (N:=8) (T:=[(0,_)]) func176 rfl ntmps176 rfl rfl hO ?_;intro a H;refine kP H (SR fun _ K1=>aj K1 rfl (SQ fun _ K2=>SR fun _ K3=>Rm rfl ?_));clear H K1;intro a H;refine CQ tN H wn rfl rfl ?_;clear H;intro a H;refine K3 _ _ ?_;clear K3;refine jr H rfl ?_ ?_
 ·intro h4
  refine kP H (SR fun _ K4=>aj K4 rfl ?_);clear H K4;intro a H;refine lr H results176 rfl ?_;have hr0:=hnil (by simpa using h4);subst hr0;exact Ju
 intro h4
 try have p4:=dF h4
 refine iG ?_;refine K2 _ _ ?_;clear K2;refine bR (fun _ K5=>?_)
 have hA:¬ A=none:=by intro e;rw [e] at h4;cases h4
 refine pV ?_;refine CO tN rP H wn rfl ?_;clear H;intro b5 a w hb5 H;refine kH H (Rm rfl ?_);clear H;intro a H
 by_cases hr0:rows=[]
 ·have hn0:n=0:=by rw [hn,hr0];rfl
  subst hn0;refine CK tN rP H wn rfl rfl (eP _) rfl ?_;clear H;intro a H;refine kH H (bG K5 rfl ?_);clear H K5;intro a H;refine lr H results176 rfl ?_;subst hr0;exact Jv
 obtain ⟨b,o,xs,rfl,hxl,hxc,hx1,fQ⟩:=hx hr0;refine oZ (Li:=[]) (Lo:=[_]) (news:=xs) tN rP rfl rfl H wn rfl rfl dR.empty hxl (fun j u hj=>H.hp.aI (hxc j u hj)) hx1 (by omega) (by omega) rfl ?_;clear H;intro v7 Lo a w hrow H;dsimp only [List.nil_append] at H;exact kH H (bG K5 rfl (LR results176 rfl fun H=>H.hp.gT ⟨_,by rw [iA,hn] at hrow;exact hrow,fQ⟩))
theorem akd (G:GH) (w0:World) (hO:gY G [] w0) (rows:List (List Dat)) (A:Option Addr) (n c:Nat) (hv:ak G (.sl 6 rows) (.slice A n c)) (hz:rows.length<=4294967296) :
  Calls prog 177 #[.slice A n c] w0 (gF w0 G [] fun u G' L'=>∃ xs,dR 107 6 u rows.length xs L'∧dK G' 6 rows xs):=by
 obtain ⟨hn,hc1,hc2,hnil,hx⟩:=hv.cells;refine jD (N:=8) (T:=[(0,_)]) func177 rfl ntmps177 rfl rfl hO ?_;intro a H;refine kP H (SR fun _ K1=>aj K1 rfl (SQ fun _ K2=>SR fun _ K3=>Rm rfl ?_));clear H K1;intro a H;refine CQ vw H wn rfl rfl ?_;clear H;intro a H;refine K3 _ _ ?_;clear K3;refine jr H rfl ?_ ?_
 ·intro h4
  refine kP H (SR fun _ K4=>aj K4 rfl ?_);clear H K4;intro a H;refine lr H results177 rfl ?_;have hr0:=hnil (by simpa using h4);subst hr0;exact Ju
 intro h4
 try have p4:=dF h4
 refine iG ?_;refine K2 _ _ ?_;clear K2;refine bR (fun _ K5=>?_)
 have hA:¬ A=none:=by intro e;rw [e] at h4;cases h4
 refine pV ?_;refine CO vw xk H wn rfl ?_;clear H;intro b5 a w hb5 H;refine kH H (Rm rfl ?_);clear H;intro a H
 by_cases hr0:rows=[]
 ·have hn0:n=0:=by rw [hn,hr0];rfl
  subst hn0;refine CK vw xk H wn rfl rfl (eP _) rfl ?_;clear H;intro a H;refine kH H (bG K5 rfl ?_);clear H K5;intro a H;refine lr H results177 rfl ?_;subst hr0;exact Jv
 obtain ⟨b,o,xs,rfl,hxl,hxc,hx1,fQ⟩:=hx hr0;refine oZ (Li:=[]) (Lo:=[_]) (news:=xs) vw xk rfl rfl H wn rfl rfl dR.empty hxl (fun j u hj=>H.hp.aI (hxc j u hj)) hx1 (by omega) (by omega) rfl ?_;clear H;intro v7 Lo a w hrow H;dsimp only [List.nil_append] at H;exact kH H (bG K5 rfl (LR results177 rfl fun H=>H.hp.gT ⟨_,by rw [iA,hn] at hrow;exact hrow,fQ⟩))
theorem ajX (G:GH) (w0:World) (hG:Hold G w0) (rows:List (List Dat)) (A:Option Addr) (n c:Nat) (hv:ak G (.sl 6 rows) (.slice A n c)) (hz:rows.length<=4294967296) :
  Calls prog 177 #[.slice A n c] w0 (bE w0 G fun u G'=>ak G' (.sl 6 rows) u):=JA hG (akd G w0 (xZ hG) rows A n c hv hz) rfl
theorem akh (G:GH) (w0:World) (hO:gY G [] w0) (rows:List (List Dat)) (A:Option Addr) (n c:Nat) (hv:ak G (.sl 2 rows) (.slice A n c)) (hz:rows.length<=4294967296) :
  Calls prog 178 #[.slice A n c] w0 (gF w0 G [] fun u G' L'=>∃ xs,dR 110 2 u rows.length xs L'∧dK G' 2 rows xs):=by
 obtain ⟨hn,hc1,hc2,hnil,hx⟩:=hv.cells;refine jD (N:=8) (T:=[(0,_)]) func178 rfl ntmps178 rfl rfl hO ?_;intro a H;refine kP H (SR fun _ K1=>aj K1 rfl (SQ fun _ K2=>SR fun _ K3=>Rm rfl ?_));clear H K1;intro a H;refine CQ sI H wn rfl rfl ?_;clear H;intro a H;refine K3 _ _ ?_;clear K3;refine jr H rfl ?_ ?_
 ·intro h4
  refine kP H (SR fun _ K4=>aj K4 rfl ?_);clear H K4;intro a H;refine lr H results178 rfl ?_;have hr0:=hnil (by simpa using h4);subst hr0;exact Ju
 intro h4
 try have p4:=dF h4
 refine iG ?_;refine K2 _ _ ?_;clear K2;refine bR (fun _ K5=>?_)
 have hA:¬ A=none:=by intro e;rw [e] at h4;cases h4
 refine pV ?_;refine CO sI xq H wn rfl ?_;clear H;intro b5 a w hb5 H;refine kH H (Rm rfl ?_);clear H;intro a H
 by_cases hr0:rows=[]
 ·have hn0:n=0:=by rw [hn,hr0];rfl
  subst hn0;refine CK sI xq H wn rfl rfl (eP _) rfl ?_;clear H;intro a H;refine kH H (bG K5 rfl ?_);clear H K5;intro a H;refine lr H results178 rfl ?_;subst hr0;exact Jv
 obtain ⟨b,o,xs,rfl,hxl,hxc,hx1,fQ⟩:=hx hr0;refine oZ (Li:=[]) (Lo:=[_]) (news:=xs) sI xq rfl rfl H wn rfl rfl dR.empty hxl (fun j u hj=>H.hp.aI (hxc j u hj)) hx1 (by omega) (by omega) rfl ?_;clear H;intro v7 Lo a w hrow H;dsimp only [List.nil_append] at H;exact kH H (bG K5 rfl (LR results178 rfl fun H=>H.hp.gT ⟨_,by rw [iA,hn] at hrow;exact hrow,fQ⟩))
theorem ajZ (G:GH) (w0:World) (hG:Hold G w0) (rows:List (List Dat)) (A:Option Addr) (n c:Nat) (hv:ak G (.sl 2 rows) (.slice A n c)) (hz:rows.length<=4294967296) :
  Calls prog 178 #[.slice A n c] w0 (bE w0 G fun u G'=>ak G' (.sl 2 rows) u):=JA hG (akh G w0 (xZ hG) rows A n c hv hz) rfl
theorem ake (G:GH) (w0:World) (hO:gY G [] w0) (rows:List (List Dat)) (A:Option Addr) (n c:Nat) (hv:ak G (.sl 4 rows) (.slice A n c)) (hz:rows.length<=4294967296) :
  Calls prog 179 #[.slice A n c] w0 (gF w0 G [] fun u G' L'=>∃ xs,dR 96 4 u rows.length xs L'∧dK G' 4 rows xs):=by
 obtain ⟨hn,hc1,hc2,hnil,hx⟩:=hv.cells;refine jD (N:=8) (T:=[(0,_)]) func179 rfl ntmps179 rfl rfl hO ?_;intro a H;refine kP H (SR fun _ K1=>aj K1 rfl (SQ fun _ K2=>SR fun _ K3=>Rm rfl ?_));clear H K1;intro a H;refine CQ zo H wn rfl rfl ?_;clear H;intro a H;refine K3 _ _ ?_;clear K3;refine jr H rfl ?_ ?_
 ·intro h4
  refine kP H (SR fun _ K4=>aj K4 rfl ?_);clear H K4;intro a H;refine lr H results179 rfl ?_;have hr0:=hnil (by simpa using h4);subst hr0;exact Ju
 intro h4
 try have p4:=dF h4
 refine iG ?_;refine K2 _ _ ?_;clear K2;refine bR (fun _ K5=>?_)
 have hA:¬ A=none:=by intro e;rw [e] at h4;cases h4
 refine pV ?_;refine CO zo Bv H wn rfl ?_;clear H;intro b5 a w hb5 H;refine kH H (Rm rfl ?_);clear H;intro a H
 by_cases hr0:rows=[]
 ·have hn0:n=0:=by rw [hn,hr0];rfl
  subst hn0;refine CK zo Bv H wn rfl rfl (eP _) rfl ?_;clear H;intro a H;refine kH H (bG K5 rfl ?_);clear H K5;intro a H;refine lr H results179 rfl ?_;subst hr0;exact Jv
 obtain ⟨b,o,xs,rfl,hxl,hxc,hx1,fQ⟩:=hx hr0;refine oZ (Li:=[]) (Lo:=[_]) (news:=xs) zo Bv rfl rfl H wn rfl rfl dR.empty hxl (fun j u hj=>H.hp.aI (hxc j u hj)) hx1 (by omega) (by omega) rfl ?_;clear H;intro v7 Lo a w hrow H;dsimp only [List.nil_append] at H;exact kH H (bG K5 rfl (LR results179 rfl fun H=>H.hp.gT ⟨_,by rw [iA,hn] at hrow;exact hrow,fQ⟩))
theorem ajY (G:GH) (w0:World) (hG:Hold G w0) (rows:List (List Dat)) (A:Option Addr) (n c:Nat) (hv:ak G (.sl 4 rows) (.slice A n c)) (hz:rows.length<=4294967296) :
  Calls prog 179 #[.slice A n c] w0 (bE w0 G fun u G'=>ak G' (.sl 4 rows) u):=JA hG (ake G w0 (xZ hG) rows A n c hv hz) rfl
theorem alN:aQ 175:=aR func175 rfl
theorem alO:aQ 176:=aR func176 rfl
theorem alP:aQ 177:=aR func177 rfl
theorem alQ:aQ 178:=aR func178 rfl
theorem axa:qR prog 36 [(0,1),(1,1),(2,1),(3,1)] [.slice none 0 0,.slice none 0 0,.slice none 0 0,.slice none 0 0]:=⟨by kernel_rfl,by kernel_rfl⟩
theorem alR:aQ 179:=aR func179 rfl
theorem bD.setAt {G:GH}:∀ {r:List Dat} {cs:List ah} {k:Nat} {d:Dat} {v:ah},bD G r cs->r[k]?=some d->ak G d v->bD G r (cs.set k v)
 | [],_,_,_,_,_,h,_=>by simp at h
 | e :: r,cs,k,d,v,h,hk,hv=>by
  simp only [bD] at h |-
  obtain ⟨x,vs,rfl,h1,h2⟩:=h
  cases k with
  | zero =>
   simp only [BS,pR] at hk
   subst hk;exact ⟨v,vs,rfl,hv,h2⟩
  | succ k=>exact ⟨x,vs.set k v,rfl,h1,bD.setAt h2 (by simpa using hk) hv⟩
theorem dK.setAt {G:GH} {sz:Nat}:∀ {rows:List (List Dat)} {xs:List ah} {i k:Nat} {r:List Dat} {d:Dat} {v:ah},dK G sz rows xs->rows[i]?=some r->r[k]?=some d->k < sz->ak G d v->dK G sz rows (xs.set (i*sz+k) v)
 | [],_,_,_,_,_,_,_,h,_,_,_=>by simp at h
 | q :: rows,xs,i,k,r,d,v,h,hr,hk,hs,hv=>by
  obtain ⟨css,rfl,h2,h3⟩:=h
  cases css with
  | nil=>simp at h2
  | cons c css =>
   obtain ⟨h4,h5⟩:=h3 0 q c rfl rfl;have h6:dK G sz rows css.flatten:=⟨css,rfl,by simpa using h2,fun j r' cs hr' hc=>h3 (j+1) r' cs (by simpa using hr') (by simpa using hc)⟩
   have h7:∀ {c' x':List ah},bD G q c'->c'.length=sz->dK G sz rows x'->dK G sz (q :: rows) (c'++x'):=fun a b e=>by
    have h8:=((dK.nil (G:=G) (sz:=sz)).snoc a b).append e
    simpa using h8
   rw [List.flatten_cons]
   cases i with
   | zero =>
    simp only [BS,pR] at hr
    subst hr;rw [Nat.zero_mul,iA,List.set_append_left _ _ (by omega)];exact h7 (h4.setAt hk hv) (by rw [List.length_set];exact h5) h6
   | succ i =>
    rw [List.set_append_right _ _ (by rw [h5,Nat.succ_mul];omega),h5,show (i+1)*sz+k - sz=i*sz+k by rw [Nat.succ_mul];omega];exact h7 h4 h5 (dK.setAt h6 (by simpa using hr) hk hs hv)
theorem axe {G:GH} {l:List bY} {xs:List ah} {k:Nat} (h:dK G 6 (l.map bY.dat) xs) (hk:k < l.length):∃ A c,xs[k*6+5]?=some (.slice A l[k].props.length c)∧ak G (.sl 2 (l[k].props.map aL.dat)) (.slice A l[k].props.length c):=by
 obtain ⟨cs,hcl,hcx,hcr⟩:=h.at (k:=k) (r:=l[k].dat) (by simp [hk]);obtain ⟨A,c,rfl,hp⟩:=N8 hcr;exact ⟨A,c,hcx 5 _ rfl,hp⟩
theorem asH {G:GH} {l:List fD} {xs:List ah} {k:Nat} (h:dK G 2 (l.map fD.dat) xs) (hk:k < l.length):∃ A n c,xs[k*2+1]?=some (.slice A n c)∧ak G (.sl 4 (l[k].levels.map jR.dat)) (.slice A n c):=by
 obtain ⟨cs,hcl,hcx,hcr⟩:=h.at (k:=k) (r:=l[k].dat) (by simp [hk]);obtain ⟨v1,vs,rfl,-,v2,vs2,rfl,h2,-⟩:=hcr;obtain ⟨A,n,c,rfl⟩:=ak.form h2;exact ⟨A,n,c,hcx 1 _ rfl,h2⟩
theorem vJ {p:Prop} (h:p:=by
 exact GQ HT Hb hG hv (gy bq) H rfl):p:=h
theorem aaJ {p:Prop} (h:p:=by
 exact uT (by kernel_rfl) (gy bq) rfl rfl HT Hb hG hv EX (uw) H):p:=h
set_option maxHeartbeats 2000000 in
theorem akl (G:GH) (w0:World) (hG:Hold G w0) (s:BP) (a1 b1_ c1 d1:ah) (hR:Ai G s a1 b1_ c1 d1) (z1:s.styles.length<=4294967296) (z2:s.lists.length<=4294967296) (z3:s.comments.length<=4294967296) (z4:s.vars.length<=4294967296) (z5:∀ x∈s.styles,x.props.length<=4294967296) (z6:∀ x∈s.lists,x.levels.length<=4294967296) :
  Calls prog 116 #[.agg #[a1,b1_,c1,d1]] w0 (bE w0 G fun u G'=>∃ a' b' c' d',u=.agg #[a',b',c',d']∧Ai G' s a' b' c' d'):=by
 have hml:maxLen=9223372036854775807:=rfl;obtain ⟨aA,an,ac,rfl⟩:=hR.st.form;obtain ⟨bA,bn,bc,rfl⟩:=hR.li.form;obtain ⟨cA,cn,cc,rfl⟩:=hR.cm.form;obtain ⟨dA,dn,dc,rfl⟩:=hR.va.form;obtain ⟨hs1,hs2,hs3,hs4⟩:=hR;refine eN [(0,_)] func116 rfl ntmps116 rfl rfl hG ?_;intro a H;refine dz (fun _ K1=>?_);refine eB (cs:=[_,_,_,_]) H wn rfl rfl rfl ?_;clear H;intro b1 a w hb1 H;refine dP vo H wn rfl ?_;clear H;intro b2 a w hb2 H;refine K1 _ _ ?_;clear K1;refine bR (fun _ K2=>?_);have H:=H.fG (Pl:=[_,_]) (eH:=[_,_]) [1,0] (by decide) rfl;obtain ⟨Ga,hma,hb1',H⟩:=H.fO;have hga:=fun j v hj=>nu hb1' 0 [.slice aA an ac,.slice bA bn bc,.slice cA cn cc,.slice dA dn dc] rfl j v hj;replace hs1:=hs1.mono hma;replace hs2:=hs2.mono hma;replace hs3:=hs3.mono hma;replace hs4:=hs4.mono hma
 have gy:TG (fun (bq:Nat->ah × OL) (dh:Nat) (v:ah) (G:GH)=>match dh with|0=>v=(aK b1 0)|1=>v=.slice aA an ac|2=>v=(bq 2).1∧∃ xs,dR 192 6 v s.styles.length xs (bq 2).2∧dK G 6 (s.styles.map bY.dat) xs|3=>v=(aK b1 1)|4=>v=.slice bA bn bc|5=>v=(bq 5).1∧∃ xs,dR 93 2 v s.lists.length xs (bq 5).2∧dK G 2 (s.lists.map fD.dat) xs|6=>v=(aK b1 2)|7=>v=.slice cA cn cc|8=>ak G (.sl 6 (s.comments.map gI.dat)) v|9=>v=(aK b1 3)|10=>v=.slice dA dn dc|11=>ak G (.sl 2 (s.vars.map jl.dat)) v|12=>∃ c' d',v=.agg #[(bq 2).1,(bq 5).1,c',d']∧ak G (.sl 6 (s.comments.map gI.dat)) c'∧ak G (.sl 2 (s.vars.map jl.dat)) d'|13=>∃ b,v=(aK b 0)∧bq 13=((aK b 0),[(b,.cells #[.slice none 0 0,.slice none 0 0,.slice none 0 0,.slice none 0 0] 36 (0,0))])|_=>True):=by intro bq dh v G G' hm h;(iterate 15 (rcases dh with _|dh;(first|exact h|exact let ⟨h1,xs,h2,h3⟩:=h;⟨h1,xs,h2,h3.mono hm⟩|exact ak.mono hm h|exact let ⟨c',d',h1,h2,h3⟩:=h;⟨c',d',h1,h2.mono hm,h3.mono hm⟩)));exact trivial
 refine Um [2,5,13] (hmx) [[],[0],[0,1],[],[3],ra 0 5,[],[6],ra 0 8,[],[9],ra 0 11,ra 0 12,[],ra 0 14] [14] (by kernel_rfl) (by kernel_rfl) (by decide) (by kernel_rfl) (fun (bq:Nat->ah × OL) (dh:Nat) (v:ah) (G:GH)=>match dh with|0=>v=(aK b1 0)|1=>v=.slice aA an ac|2=>v=(bq 2).1∧∃ xs,dR 192 6 v s.styles.length xs (bq 2).2∧dK G 6 (s.styles.map bY.dat) xs|3=>v=(aK b1 1)|4=>v=.slice bA bn bc|5=>v=(bq 5).1∧∃ xs,dR 93 2 v s.lists.length xs (bq 5).2∧dK G 2 (s.lists.map fD.dat) xs|6=>v=(aK b1 2)|7=>v=.slice cA cn cc|8=>ak G (.sl 6 (s.comments.map gI.dat)) v|9=>v=(aK b1 3)|10=>v=.slice dA dn dc|11=>ak G (.sl 2 (s.vars.map jl.dat)) v|12=>∃ c' d',v=.agg #[(bq 2).1,(bq 5).1,c',d']∧ak G (.sl 6 (s.comments.map gI.dat)) c'∧ak G (.sl 2 (s.vars.map jl.dat)) d'|13=>∃ b,v=(aK b 0)∧bq 13=((aK b 0),[(b,.cells #[.slice none 0 0,.slice none 0 0,.slice none 0 0,.slice none 0 0] 36 (0,0))])|_=>True) (fun m hm x y i v G hi hc h=>by
  have hm:m=2∨m=5∨m=13:=by simpa using hm
  rcases hm with rfl|rfl|rfl
  ·(iterate 15 (rcases i with _|i;(first|exact h|exact absurd hi (by decide)|exact absurd hc (by decide))));exact trivial
  ·(iterate 15 (rcases i with _|i;(first|exact h|exact absurd hi (by decide)|exact absurd hc (by decide))));exact trivial
  ·(iterate 15 (rcases i with _|i;(first|exact h|exact absurd hi (by decide)|exact absurd hc (by decide))));exact trivial
  ) H ?_ ?_ ?_
 ·clear H;refine aC ?_ ?_ ?_ ?_ (aC ?_ ?_ ?_ ?_ (aC ?_ ?_ ?_ ?_ (bP ?_ (bP ?_ (bP ?_ dH)))))
  ·intro bq fI aT a w G1 fZ _ _ aP hc hG HT hv;have H:=HT;clear aP;have Hb:=H.full;have H:=Hb;clear hc;refine kH H (Rf Dx rfl ?_);clear H;intro a H;refine aB ⟨rfl,?_⟩;exact vJ
  ·intro bq fI aT a w G1 fZ _ _ aP hc hG HT hv;have H:=HT;clear aP;have H:=H.aN (hv 0 6 (hc 0 (by decide)) rfl) rfl;have Hb:=H.full;have H:=Hb;clear hc;refine kH H (Rg qM rfl (aF hG (hga 0 _ rfl)) ?_);clear H;intro a H;refine aB ⟨rfl,?_⟩;exact vJ
  ·intro _ _ _ _ _ _ _ _ hB;exact fV
  ·intro bq fI aT a w G1 fZ _ _ aP hc hG HT hv;have H:=HT;clear aP;have Hb:=H.full;have H:=Hb;clear hc;refine kH H (Rf Dy rfl ?_);clear H;intro a H;refine aB ⟨rfl,?_⟩;exact vJ
  ·intro bq fI aT a w G1 fZ _ _ aP hc hG HT hv;have H:=HT;clear aP;have H:=H.aN (hv 3 9 (hc 3 (by decide)) rfl) rfl;have Hb:=H.full;have H:=Hb;clear hc;refine kH H (Rg zl rfl (aF hG (hga 1 _ rfl)) ?_);clear H;intro a H;refine aB ⟨rfl,?_⟩;exact vJ
  ·intro _ _ _ _ _ _ _ _ hB;exact fV
  ·intro bq fI aT a w G1 fZ _ _ aP hc hG HT hv;have H:=HT;clear aP;have Hb:=H.full;have H:=Hb;clear hc;refine kH H (Rf MH rfl ?_);clear H;intro a H;refine aB ⟨rfl,?_⟩;exact vJ
  ·intro bq fI aT a w G1 fZ _ _ aP hc hG HT hv;have H:=HT;clear aP;have H:=H.aN (hv 6 12 (hc 6 (by decide)) rfl) rfl;have Hb:=H.full;have H:=Hb;clear hc;refine kH H (Rg CZ rfl (aF hG (hga 2 _ rfl)) ?_);clear H;intro a H;refine aB ⟨rfl,?_⟩;exact vJ
  ·intro bq fI aT a w G1 fZ _ _ aP hc hG HT hv;have H:=HT;clear aP;have H:=H.aN (hv 7 13 (hc 7 (by decide)) rfl) rfl;have Hb:=H.full;have H:=Hb;clear hc;refine s_call alP H wn rfl (ajX _ _ H.ro _ _ _ _ (hs3.mono hG) (by simpa using z3)) rfl ?_;clear H;rintro v14 Dc a w uw EX H;refine aB ⟨rfl,?_⟩;exact aaJ
  ·intro bq fI aT a w G1 fZ _ _ aP hc hG HT hv;have H:=HT;clear aP;have Hb:=H.full;have H:=Hb;clear hc;refine kH H (Rf MI rfl ?_);clear H;intro a H;refine aB ⟨rfl,?_⟩;exact vJ
  ·intro bq fI aT a w G1 fZ _ _ aP hc hG HT hv;have H:=HT;clear aP;have H:=H.aN (hv 9 15 (hc 9 (by decide)) rfl) rfl;have Hb:=H.full;have H:=Hb;clear hc;refine kH H (Rg xw rfl (aF hG (hga 3 _ rfl)) ?_);clear H;intro a H;refine aB ⟨rfl,?_⟩;exact vJ
  ·intro bq fI aT a w G1 fZ _ _ aP hc hG HT hv;have H:=HT;clear aP;have H:=H.aN (hv 10 16 (hc 10 (by decide)) rfl) rfl;have Hb:=H.full;have H:=Hb;clear hc;refine s_call alQ H wn rfl (ajZ _ _ H.ro _ _ _ _ (hs4.mono hG) (by simpa using z4)) rfl ?_;clear H;rintro v17 zu a w Nc aoY H;refine aB ⟨rfl,?_⟩;exact uT (by kernel_rfl) (gy bq) rfl rfl HT Hb hG hv aoY (Nc) H
  ·intro bq fI aT a w G1 fZ _ _ aP hc hG HT hv;have H:=HT;clear aP;obtain ⟨u8,Bg,nU⟩:=hv 2 8 (hc 2 (by decide)) rfl;(try dsimp only at nU);obtain ⟨h8,SN,D7,Qu⟩:=nU;obtain ⟨sA,sc,rfl,-,-⟩:=D7.shape;have H:=H.jC Bg;obtain ⟨YZ,Ik,xV⟩:=hv 5 11 (hc 5 (by decide)) rfl;(try dsimp only at xV);obtain ⟨h11,Lj,zQ,Ke⟩:=xV;obtain ⟨lA,lc,rfl,-,-⟩:=zQ.shape;have H:=H.jC Ik;obtain ⟨u14,Nq,uw⟩:=hv 8 14 (hc 8 (by decide)) rfl;(try dsimp only at uw);obtain ⟨S9,n14,c14,rfl⟩:=uw.form;have H:=H.jC Nq;obtain ⟨u17,arJ,Nc⟩:=hv 11 17 (hc 11 (by decide)) rfl;(try dsimp only at Nc);obtain ⟨A17,n17,c17,rfl⟩:=Nc.form;have H:=H.jC arJ;have Hb:=H.full;have H:=Hb;clear hc;refine jF axa [_,_,_,_] H wn rfl rfl rfl rfl ?_;clear H;intro a H;refine aB ⟨rfl,?_⟩;exact uT (by kernel_rfl) (gy bq) rfl rfl HT Hb hG hv (fun _ _ h=>h) (⟨_,_,by rw [<- h8,<- h11],uw,Nc⟩) H
  ·intro _ _ _ _ _ _ _ _ hB;exact fV
  intro _ _ _ _ _ _ _ hB;exact fV
 ·clear H;refine aC ?_ ?_ ?_ ?_ (aC ?_ ?_ ?_ ?_ (aC ?_ ?_ ?_ ?_ (bP ?_ (bP ?_ (bP ?_ dH)))))
  ·intro hB;exact fV
  ·intro hB;exact fV
  ·intro _ bq fI aT a w G1 fZ _ hc hG HT hv;have H:=HT;have H:=H.aN (hv (.bool false,[]) 1 7 (by decide) (hc 1 (by decide)) rfl) rfl;have Hb:=H.full;have H:=Hb;clear hc;refine iE alN (Li:=fI) (L:=[]) (H.cast (iF _).symm) wn rfl (akg _ _ (xZ H.ro) _ _ _ _ (hs1.mono hG) (by simpa using z1)) rfl ?_;clear H;rintro v8 G8 L8 a w ⟨SN,D7,Qu⟩ qy H;rw [bQ] at D7;have H:=H.perm wG;refine aB ⟨rfl,(v8,L8),?_⟩;exact GR (by kernel_rfl) (gy (yD bq 2 (v8,L8))) rfl HT Hb hG (fun j e h1 h2 h3=>hv (v8,L8) j e h1 h2 h3) qy (⟨rfl,SN,D7,Qu⟩) H
  ·intro hB;exact fV
  ·intro hB;exact fV
  ·intro _ bq fI aT a w G1 fZ _ hc hG HT hv;have H:=HT;have H:=H.aN (hv (.bool false,[]) 4 10 (by decide) (hc 4 (by decide)) rfl) rfl;have Hb:=H.full;have H:=Hb;clear hc;refine iE alO (Li:=fI) (L:=[]) (H.cast (iF _).symm) wn rfl (akf _ _ (xZ H.ro) _ _ _ _ (hs2.mono hG) (by simpa using z2)) rfl ?_;clear H;rintro v11 uG F5 a w ⟨Lj,zQ,Ke⟩ pX H;rw [bQ] at zQ;have H:=H.perm wG;refine aB ⟨rfl,(v11,F5),?_⟩;exact GR (by kernel_rfl) (gy (yD bq 5 (v11,F5))) rfl HT Hb hG (fun j e h1 h2 h3=>hv (v11,F5) j e h1 h2 h3) pX (⟨rfl,Lj,zQ,Ke⟩) H
  ·intro hB;exact fV
  ·intro hB;exact fV
  ·intro hB;exact fV
  ·intro hB;exact fV
  ·intro hB;exact fV
  ·intro hB;exact fV
  ·intro hB;exact fV
  ·intro _ bq fI aT a w G1 fZ _ hc hG HT hv;have H:=HT;have Hb:=H.full;have H:=Hb;clear hc;refine dP vo H wn rfl ?_;clear H;intro b3 a w hb3 H;refine aB ⟨rfl,((aK b3 0),[(b3,.cells #[.slice none 0 0,.slice none 0 0,.slice none 0 0,.slice none 0 0] 36 (0,0))]),?_⟩;exact GR (by kernel_rfl) (gy (yD bq 13 ((aK b3 0),[(b3,.cells #[.slice none 0 0,.slice none 0 0,.slice none 0 0,.slice none 0 0] 36 (0,0))]))) rfl HT Hb hG (fun j e h1 h2 h3=>hv ((aK b3 0),[(b3,.cells #[.slice none 0 0,.slice none 0 0,.slice none 0 0,.slice none 0 0] 36 (0,0))]) j e h1 h2 h3) (fun _ _ h=>h) (⟨b3,rfl,rfl⟩) H
  intro hB;exact fV
 clear H;intro bq a w G jy H hv
 simp only [rz,List.flatMap_cons,List.flatMap_nil,cond_true,iF,ko] at H
 obtain ⟨u3,hu3,hp3⟩:=hv 13 3 (by decide) rfl;(try dsimp only at hp3);obtain ⟨b3,rfl,e13⟩:=hp3;have H:=H.jC hu3;obtain ⟨u8,Bg,nU⟩:=hv 2 8 (by decide) rfl;(try dsimp only at nU);obtain ⟨h8,SN,D7,Qu⟩:=nU;obtain ⟨sA,sc,rfl,-,-⟩:=D7.shape;have H:=H.jC Bg;obtain ⟨YZ,Ik,xV⟩:=hv 5 11 (by decide) rfl;(try dsimp only at xV);obtain ⟨h11,Lj,zQ,Ke⟩:=xV;obtain ⟨lA,lc,rfl,-,-⟩:=zQ.shape;have H:=H.jC Ik;obtain ⟨u18,Xd,Nf⟩:=hv 12 18 (by decide) rfl;(try dsimp only at Nf);obtain ⟨azE,azF,rfl,hc18,adF⟩:=Nf;obtain ⟨eA,en,ec,rfl⟩:=hc18.form;obtain ⟨fA,fn,fc,rfl⟩:=adF.form;have H:=H.jC Xd;clear hv;obtain ⟨⟨vS,LS⟩,eS⟩:∃ y,y=bq 2:=⟨_,rfl⟩;obtain ⟨⟨vL,LL⟩,eL⟩:∃ y,y=bq 5:=⟨_,rfl⟩;rw [<- eS,<- eL,e13] at H;rw [<- eS] at D7 h8;rw [<- eL] at zQ h11;dsimp only at H D7 zQ h8 h11;subst h8;subst h11;rw [<- ko] at H;have H:=H.perm (wG (l₁:=LS++LL) (l₂:=[_,_]));dsimp only [lca,bM] at H;refine bK vo 0 (vs:=[_,_,_,_]) H wn rfl ?_;clear H;intro w H;refine aB ⟨rfl,?_⟩;refine K2 _ _ ?_;clear K2;refine kP H (SQ fun _ K3=>SR fun _ K4=>bO Dx qM 0 rfl rfl (Rl lQ rfl (Rm rfl (Kz K4 (SB ?_)))));clear H K4;intro a H;skip;refine fF (ι:=Nat × List ah × OL × GH) (Tc:=[(2,_),(3,_),(21,_)]) (Lc:=[(_,_),(_,_)]) (fun gh=>[(22,vi gh.1)]) (fun gh=>[]++(gh.2.2.1++LL)) (fun gh=>gh.2.2.2) (fun gh=>gh.1<=s.styles.length∧dR 192 6 (.slice sA s.styles.length sc) s.styles.length gh.2.1 gh.2.2.1∧dK gh.2.2.2 6 (s.styles.map bY.dat) gh.2.1∧(∀ b o,G b=some o->gh.2.2.2 b=some o)) (fun gh=>s.styles.length - gh.1) ((0,SN,LS,G)) (by exact H.sub ⟨rfl,rfl,rfl,rfl,ay⟩) ?_ ?_
 ·exact ⟨lu _,D7,Qu,fun _ _ h=>h⟩
 clear H;rintro ⟨k,xs,Lo,g⟩ a w hI H;dsimp only at hI H;obtain ⟨hk,hrw,fQ,hgm⟩:=hI;dsimp only [lca,bM] at H;refine kP H (SR fun _ K5=>Rc rfl (Kz K5 (SQ fun _ K6=>Cd rfl ?_ ?_))) <;> clear H K5
 ·intro h23 a H
  try have Bp:=dT h23
  have hk2:k < s.styles.length:=by omega
  obtain ⟨bs,rfl⟩:=hrw.ptr (by omega);obtain ⟨pA,pc,hpx,hpr⟩:=axe fQ hk2;obtain ⟨cur,-,rfl,hcur,hset⟩:=hrw.set1;have hpz:=z5 _ (lC hk2);refine kP H (Kc K6 (SQ fun _ K7=>SB (SR fun _ K8=>Rm rfl (aj K8 rfl ?_))));clear H K6 K8;intro a H
  have Bd:BM (fun (dh:Nat) (v:ah) (G:GH)=>match dh with|0=>v=(aK b3 0)|1=>v=.slice (some ⟨bs,0,none⟩) s.styles.length sc|2=>v=vi k|3=>v=(aK b3 0)|4=>v=.slice (some ⟨bs,0,none⟩) s.styles.length sc|5=>v=vi k|6=>v=(aK bs (0+k*6))|7=>v=(aK bs (0+k*6+5))|8=>v=.slice pA s.styles[k].props.length pc|9=>ak G (.sl 2 (s.styles[k].props.map aL.dat)) v|_=>True):=by intro dh v G G' hm h;(iterate 13 (rcases dh with _|dh;(first|exact h|exact ak.mono hm h)));exact trivial
  refine Am (hmx) [[],[0],[],[],[3],[],[3,4,5],ra 3 4,ra 3 5,ra 3 6,ra 0 10,ra 0 11,ra 0 12] [10,11,12] (by kernel_rfl) (by kernel_rfl) _ Bd H ?_ ?_
  ·clear H;refine aC ?_ ?_ ?_ ?_ (aC ?_ ?_ ?_ ?_ (aC ?_ ?_ (bU rfl) (bU rfl) (bP (bU rfl) dH)))
   ·refine dD [] rfl trivial (by kernel_rfl) Bd rfl rfl ?_;intro aT a w G1 hG HT H fin;exact kH H (Rf Dx rfl fun _ H=>fin H iJ rfl)
   ·refine dD [(0,25,_)] rfl ⟨fun _ _ h=>h,ay⟩ (by kernel_rfl) Bd rfl rfl ?_;intro aT a w G1 hG HT H fin;exact kH H (Ro qM 0 rfl fun _ H=>fin H iJ rfl)
   ·refine dD [] rfl trivial (by kernel_rfl) Bd rfl rfl ?_;intro aT a w G1 hG HT H fin;exact Ak
   ·refine dD [] rfl trivial (by kernel_rfl) Bd rfl rfl ?_;intro aT a w G1 hG HT H fin;exact kH H (Rf Dx rfl fun _ H=>fin H iJ rfl)
   ·refine dD [(3,28,_)] rfl ⟨fun _ _ h=>h,ay⟩ (by kernel_rfl) Bd rfl rfl ?_;intro aT a w G1 hG HT H fin;exact kH H (Ro qM 0 rfl fun _ H=>fin H iJ rfl)
   ·refine dD [] rfl trivial (by kernel_rfl) Bd rfl rfl ?_;intro aT a w G1 hG HT H fin;exact Ak
   ·refine dD [(4,29,_),(5,30,_)] rfl ⟨fun _ _ h=>h,fun _ _ h=>h,ay⟩ (by kernel_rfl) Bd rfl rfl ?_;intro aT a w G1 hG HT H fin;exact kH H (Ri lQ jg rfl rfl fun _ H=>fin H iJ rfl)
   ·refine dD [(6,31,_)] rfl ⟨fun _ _ h=>h,ay⟩ (by kernel_rfl) Bd rfl rfl ?_;intro aT a w G1 hG HT H fin;exact kH H (Rf JU rfl fun _ H=>fin H iJ rfl)
   ·refine dD [(7,32,_)] rfl ⟨fun _ _ h=>h,ay⟩ (by kernel_rfl) Bd rfl rfl ?_;intro aT a w G1 hG HT H fin;refine rO tK H wn rfl (hrw.at H.hp (fun x hx=>gV _ (gV _ (List.mem_append_left _ hx))) (by rw [iA];exact hpx)) rfl ?_;clear H;intro a H;exact dZ
   refine dD [(8,33,_)] rfl ⟨fun _ _ h=>h,ay⟩ (by kernel_rfl) Bd rfl rfl ?_;intro aT a w G1 hG HT H fin;refine s_call P6 H wn rfl (Uv _ _ H.ro _ _ _ _ (hpr.mono hG) (by simpa using hpz)) rfl ?_;clear H;rintro v34 OQ a w Fp ape H;exact fin H ape (Fp)
  clear H;intro a w G oz H hv;have H:=H.aN (hv 1 26 rfl rfl) rfl;have H:=H.aN (hv 2 27 rfl rfl) rfl;obtain ⟨u34,arK,Fp⟩:=hv 9 34 (by decide) rfl;(try dsimp only at Fp);obtain ⟨Et,n34,c34,rfl⟩:=Fp.form;have H:=H.jC arK;clear hv;refine kH H (Ri lQ jg rfl rfl (Rf JU rfl ?_));clear H;intro a H;refine KS tK 2 (c:=cur) (vs:=[.slice Et n34 c34]) (cur.set (k*6+5) (.slice Et n34 c34)) H wn rfl rfl rfl rfl rfl rfl (by simp;omega) (by rw [iA];rfl) ?_;clear H;intro w H;dsimp only [List.set,List.cons_append,List.nil_append] at H;have hrwn:=hset (k*6+5) (.slice Et n34 c34);have aqh:=(fQ.mono oz).setAt (i:=k) (k:=5) (r:=s.styles[k].dat) (v:=.slice Et n34 c34) (by simp [hk2]) rfl (by decide) Fp;refine aB ⟨rfl,?_⟩;refine K7 _ _ ?_;clear K7;refine kP H (SC (Rd rfl (Rm rfl ?_)));clear H;intro a H;refine aB ?_;refine dJ ((k+1,xs.set (k*6+5) (.slice Et n34 c34),[(bs,.cells (cur.set (k*6+5) (.slice Et n34 c34)).toArray 192 (0,0))],_)) (by exact H.sub ⟨rfl,rfl,rfl,rfl,ay⟩) ?_
  (try dsimp only);exact ⟨by omega,hrwn,aqh,fun b o h=>oz b o (hgm b o h)⟩
 intro h23 a H
 try have Bp:=dF h23
 obtain rfl:k=s.styles.length:=by omega
 refine eu ?_;refine K3 _ _ ?_;clear K3;refine kP H (SQ fun _ K9=>SR fun _ aS=>bO Dy zl 0 rfl rfl (Rl tN rfl (Rm rfl (Kz aS (SB ?_)))));clear H aS;intro a H;skip;refine fF (ι:=Nat × List ah × OL × GH) (Tc:=[(2,_),(3,_),(40,_)]) (Lc:=[(_,_),(_,_)]) (fun gh=>[(41,vi gh.1)]) (fun gh=>[]++(Lo++gh.2.2.1)) (fun gh=>gh.2.2.2) (fun gh=>gh.1<=s.lists.length∧dR 93 2 (.slice lA s.lists.length lc) s.lists.length gh.2.1 gh.2.2.1∧dK gh.2.2.2 2 (s.lists.map fD.dat) gh.2.1∧(∀ b o,g b=some o->gh.2.2.2 b=some o)) (fun gh=>s.lists.length - gh.1) ((0,Lj,LL,g)) (by exact H.sub ⟨rfl,rfl,rfl,rfl,ay⟩) ?_ ?_
 ·exact ⟨lu _,zQ,Ke.mono hgm,fun _ _ h=>h⟩
 clear H;rintro ⟨k2,xs2,Lo2,g2⟩ a w hI H;dsimp only at hI H;obtain ⟨hk2,hrw2,zO,lT⟩:=hI;dsimp only [lca,bM] at H;refine kP H (SR fun _ bH=>Rc rfl (Kz bH (SQ fun _ bT=>Cd rfl ?_ ?_))) <;> clear H bH
 ·intro kI a H
  try have p42:=dT kI
  have hk3:k2 < s.lists.length:=by omega
  obtain ⟨bl,rfl⟩:=hrw2.ptr (by omega);obtain ⟨qA,qn,qc,hqx,hqr⟩:=asH zO hk3;obtain ⟨EK,-,rfl,ayQ,arB⟩:=hrw2.set1;have hqz:=z6 _ (lC hk3);refine kP H (Kc bT (SQ fun _ cK=>SB (SR fun _ dB=>Rm rfl (aj dB rfl ?_))));clear H bT dB;intro a H
  have Bc:BM (fun (dh:Nat) (v:ah) (G:GH)=>match dh with|0=>v=(aK b3 1)|1=>v=.slice (some ⟨bl,0,none⟩) s.lists.length lc|2=>v=vi k2|3=>v=(aK b3 1)|4=>v=.slice (some ⟨bl,0,none⟩) s.lists.length lc|5=>v=vi k2|6=>v=(aK bl (0+k2*2))|7=>v=(aK bl (0+k2*2+1))|8=>v=.slice qA qn qc|9=>ak G (.sl 4 (s.lists[k2].levels.map jR.dat)) v|_=>True):=by intro dh v G G' hm h;(iterate 13 (rcases dh with _|dh;(first|exact h|exact ak.mono hm h)));exact trivial
  refine Am (hmx) [[],[0],[],[],[3],[],[3,4,5],ra 3 4,ra 3 5,ra 3 6,ra 0 10,ra 0 11,ra 0 12] [10,11,12] (by kernel_rfl) (by kernel_rfl) _ Bc H ?_ ?_
  ·clear H;refine aC ?_ ?_ ?_ ?_ (aC ?_ ?_ ?_ ?_ (aC ?_ ?_ (bU rfl) (bU rfl) (bP (bU rfl) dH)))
   ·refine dD [] rfl trivial (by kernel_rfl) Bc rfl rfl ?_;intro aT a w G1 hG HT H fin;exact kH H (Rf Dy rfl fun _ H=>fin H iJ rfl)
   ·refine dD [(0,44,_)] rfl ⟨fun _ _ h=>h,ay⟩ (by kernel_rfl) Bc rfl rfl ?_;intro aT a w G1 hG HT H fin;exact kH H (Ro zl 0 rfl fun _ H=>fin H iJ rfl)
   ·refine dD [] rfl trivial (by kernel_rfl) Bc rfl rfl ?_;intro aT a w G1 hG HT H fin;exact Ak
   ·refine dD [] rfl trivial (by kernel_rfl) Bc rfl rfl ?_;intro aT a w G1 hG HT H fin;exact kH H (Rf Dy rfl fun _ H=>fin H iJ rfl)
   ·refine dD [(3,47,_)] rfl ⟨fun _ _ h=>h,ay⟩ (by kernel_rfl) Bc rfl rfl ?_;intro aT a w G1 hG HT H fin;exact kH H (Ro zl 0 rfl fun _ H=>fin H iJ rfl)
   ·refine dD [] rfl trivial (by kernel_rfl) Bc rfl rfl ?_;intro aT a w G1 hG HT H fin;exact Ak
   ·refine dD [(4,48,_),(5,49,_)] rfl ⟨fun _ _ h=>h,fun _ _ h=>h,ay⟩ (by kernel_rfl) Bc rfl rfl ?_;intro aT a w G1 hG HT H fin;exact kH H (Ri tN rP rfl rfl fun _ H=>fin H iJ rfl)
   ·refine dD [(6,50,_)] rfl ⟨fun _ _ h=>h,ay⟩ (by kernel_rfl) Bc rfl rfl ?_;intro aT a w G1 hG HT H fin;exact kH H (Rf MJ rfl fun _ H=>fin H iJ rfl)
   ·refine dD [(7,51,_)] rfl ⟨fun _ _ h=>h,ay⟩ (by kernel_rfl) Bc rfl rfl ?_;intro aT a w G1 hG HT H fin;refine rO Od H wn rfl (hrw2.at H.hp (fun x hx=>gV _ (gV _ (List.mem_append_right _ hx))) (by rw [iA];exact hqx)) rfl ?_;clear H;intro a H;exact dZ
   refine dD [(8,52,_)] rfl ⟨fun _ _ h=>h,ay⟩ (by kernel_rfl) Bc rfl rfl ?_;intro aT a w G1 hG HT H fin;refine s_call alR H wn rfl (ajY _ _ H.ro _ _ _ _ (hqr.mono hG) (by simpa using hqz)) rfl ?_;clear H;rintro v53 Tp a w yU Hu H;exact fin H Hu (yU)
  clear H;intro a w G tq H hv;have H:=H.aN (hv 1 45 rfl rfl) rfl;have H:=H.aN (hv 2 46 rfl rfl) rfl;obtain ⟨u53,Nr,yU⟩:=hv 9 53 (by decide) rfl;(try dsimp only at yU);obtain ⟨Ad,n53,c53,rfl⟩:=yU.form;have H:=H.jC Nr;clear hv;refine kH H (Ri tN rP rfl rfl (Rf MJ rfl ?_));clear H;intro a H;refine KS Od (2+Lo.length) (c:=EK) (vs:=[.slice Ad n53 c53]) (EK.set (k2*2+1) (.slice Ad n53 c53)) H wn rfl (arW [_,_] Lo _) rfl rfl rfl rfl (by simp;omega) (by rw [iA];rfl) ?_;clear H;intro w H;have H:=H.cast (awp [_,_] Lo _ _);have arA:=arB (k2*2+1) (.slice Ad n53 c53);have aqi:=(zO.mono tq).setAt (i:=k2) (k:=1) (r:=s.lists[k2].dat) (v:=.slice Ad n53 c53) (by simp [hk3]) rfl (by decide) yU;refine aB ⟨rfl,?_⟩;refine cK _ _ ?_;clear cK;refine kP H (SC (Rd rfl (Rm rfl ?_)));clear H;intro a H;refine aB ?_;refine dJ ((k2+1,xs2.set (k2*2+1) (.slice Ad n53 c53),[(bl,.cells (EK.set (k2*2+1) (.slice Ad n53 c53)).toArray 93 (0,0))],_)) (by exact H.sub ⟨rfl,rfl,rfl,rfl,ay⟩) ?_
  (try dsimp only);exact ⟨by omega,arA,aqi,fun b o h=>tq b o (lT b o h)⟩
 intro kI a H
 try have p42:=dF kI
 obtain rfl:k2=s.lists.length:=by omega
 refine eu ?_;refine K9 _ _ ?_;clear K9;refine dz (fun _ eU=>?_);refine aV vo (cs:=[_,_,_,_]) H wn rfl rfl (H.hp.cB 0 rfl rfl) rfl ?_;clear H;intro a H;refine bK vo 1 (vs:=[_,_,_,_]) H wn rfl ?_;clear H;intro w H;refine eU _ _ ?_;clear eU;refine dw ?_;have H:=H.un (A:=[_,_]);obtain ⟨Gr,hmr,Ih,H⟩:=St.qG (Li:=[_,_]++Lo) H hrw2 (rows:=s.lists.map fD.dat) (by simp) zO;obtain ⟨Gs,hms,WZ,H⟩:=St.qG (Li:=[_,_]) H hrw (rows:=s.styles.map bY.dat) (by simp) ((fQ.mono lT).mono hmr);refine (leave1 H results116 (.cons (mI vo (cs:=[_,_,_,_]) H rfl rfl (H.hp.cB 1 rfl rfl)) .nil) ?_).1;exact H.rt ⟨_,_,_,_,rfl,WZ,Ih.mono hms,(((hc18.mono hgm).mono lT).mono hmr).mono hms,(((adF.mono hgm).mono lT).mono hmr).mono hms⟩
theorem acu:aQ 60:=aR func60 rfl
theorem alc:aQ 116:=aR func116 rfl
theorem YH:qR prog 38 [(0,1),(1,5),(6,1),(7,4)] [.slice none 0 0,.slice none 0 0,.int .i64 0,.int .i64 0,.slice none 0 0,.slice none 0 0,.slice none 0 0,.slice none 0 0,.slice none 0 0,.slice none 0 0,.slice none 0 0]:=⟨by kernel_rfl,by kernel_rfl⟩
theorem akb (G:GH) (w0:World) (hO:gY G [] w0) (l:List au) (v:ah) (hv:ak G (.sl 11 (l.map au.dat)) v) (hz:dx l<=4294967296) :
  Calls prog 80 #[v] w0 (gF w0 G [] fun u G' L'=>∃ xs,dR 68 11 u l.length xs L'∧dK G' 11 (l.map au.dat) xs):=by
 have ih:=Uw 4294967297 (by omega);have hl:=Ll l;refine jD (N:=5) (T:=[(0,_)]) func80 rfl ntmps80 rfl rfl hO ?_;intro a H;refine kP H (SR fun _ K1=>aj K1 rfl (SR fun _ K2=>Rm rfl ?_));clear H K1;intro a H;refine iE abY (Li:=[]) (L:=[]) H wn rfl (abQ (fun x=>x) _ _ (xZ H.ro) l _ _ hv (by omega) (fun y hy=>abj (n:=4294967296) (Uw 4294967296 (by omega)) (by omega) y (by have:=Ze hy;omega))) rfl ?_;clear H;rintro v4 G4 L4 a w ⟨xs4,arp,aqe⟩ M4 H;dsimp only [List.nil_append] at H;exact kH H (aj K2 rfl (LR results80 rfl fun H=>H.hp.gT ⟨xs4,arp,aqe⟩))
def aii (G:GH) (D:jh) (d:gu) (L:OL):Prop :=
 ∃ xf Lf xr Lr,L=Lf++Lr∧dR 68 11 (aW D.f) d.flow.length xf Lf∧dK G 11 (d.flow.map au.dat) xf∧dR 102 3 (aW D.r) d.revs.length xr Lr∧dK G 3 (d.revs.map bV.dat) xr ∧
  jq G d.fin (aW D.p) (aW D.d) (aW D.y)∧D.ins=d.fin.marks.ins∧D.move=d.fin.marks.move∧Ai G d.iq (aW D.s1) (aW D.s2) (aW D.s3) (aW D.s4)
set_option maxHeartbeats 2000000 in
theorem akF (G:GH) (w0:World) (hO:gY G [] w0) (D:jh) (d:gu) (hR:kX G D d) (hz:Af d) :
  Calls prog 63 #[D.val] w0 (gF w0 G [] fun u G' L'=>∃ D':jh,u=D'.val∧aii G' D' d L'):=by
 obtain ⟨hfl,hhd,hins,hmv,qz,hst⟩:=hR;obtain ⟨zf,zh,zr,zt,zs,IZ⟩:=hz;refine jD (N:=16) (T:=[(0,_)]) func63 rfl ntmps63 rfl rfl hO ?_;intro a H;refine dz (fun _ K1=>?_);refine eB (cs:=[_,_,_,_,_,_,_,_,_,_,_]) H wn rfl rfl rfl ?_;clear H;intro b1 a w hb1 H;refine dP gM H wn rfl ?_;clear H;intro b2 a w hb2 H;refine K1 _ _ ?_;clear K1;refine bR (fun _ K2=>?_);have H:=H.fG (Pl:=[_,_]) (eH:=[_,_]) [1,0] (by decide) rfl;obtain ⟨Ga,hma,hb1',H⟩:=H.fO;have hga:=fun j v hj=>nu hb1' 0 D.cells rfl j v hj;replace hfl:=hfl.mono hma;replace hhd:=hhd.mono hma;replace qz:=qz.mono hma;replace hst:=hst.mono hma
 have gy:TG (fun (bq:Nat->ah × OL) (dh:Nat) (v:ah) (G:GH)=>match dh with|0=>v=(aK b1 0)|1=>v=aW D.f|2=>v=(bq 2).1∧∃ xs,dR 68 11 v d.flow.length xs (bq 2).2∧dK G 11 (d.flow.map au.dat) xs|3=>v=(aK b1 1)|4=>v=sj d.fin (aW D.p) (aW D.d) (aW D.y)|5=>∃ p y z,v=.agg #[p,vi d.fin.marks.ins,vi d.fin.marks.move,y,z]∧jq G d.fin p y z|6=>v=(aK b1 6)|7=>v=aW D.r|8=>v=(bq 8).1∧∃ xs,dR 102 3 v d.revs.length xs (bq 8).2∧dK G 3 (d.revs.map bV.dat) xs|9=>v=(aK b1 7)|10=>v=.agg #[aW D.s1,aW D.s2,aW D.s3,aW D.s4]|11=>∃ a' b' c' d',v=.agg #[a',b',c',d']∧Ai G d.iq a' b' c' d'|_=>True):=by intro bq dh v G G' hm h;(iterate 14 (rcases dh with _|dh;(first|exact h|exact let ⟨h1,xs,h2,h3⟩:=h;⟨h1,xs,h2,h3.mono hm⟩|exact let ⟨p,y,z,h1,h2⟩:=h;⟨p,y,z,h1,h2.mono hm⟩|exact let ⟨p,q,y,z,h1,h2⟩:=h;⟨p,q,y,z,h1,h2.mono hm⟩)));exact trivial
 refine Um [2,8] (hmx) [[],[0],[0,1],[],[3],ra 0 5,[],[6],ra 0 8,[],[9],ra 0 11,ra 0 12,ra 0 13] [12,13] (by kernel_rfl) (by kernel_rfl) (by decide) (by kernel_rfl) (fun (bq:Nat->ah × OL) (dh:Nat) (v:ah) (G:GH)=>match dh with|0=>v=(aK b1 0)|1=>v=aW D.f|2=>v=(bq 2).1∧∃ xs,dR 68 11 v d.flow.length xs (bq 2).2∧dK G 11 (d.flow.map au.dat) xs|3=>v=(aK b1 1)|4=>v=sj d.fin (aW D.p) (aW D.d) (aW D.y)|5=>∃ p y z,v=.agg #[p,vi d.fin.marks.ins,vi d.fin.marks.move,y,z]∧jq G d.fin p y z|6=>v=(aK b1 6)|7=>v=aW D.r|8=>v=(bq 8).1∧∃ xs,dR 102 3 v d.revs.length xs (bq 8).2∧dK G 3 (d.revs.map bV.dat) xs|9=>v=(aK b1 7)|10=>v=.agg #[aW D.s1,aW D.s2,aW D.s3,aW D.s4]|11=>∃ a' b' c' d',v=.agg #[a',b',c',d']∧Ai G d.iq a' b' c' d'|_=>True) (fun m hm x y i v G hi hc h=>by
  have hm:m=2∨m=8:=by simpa using hm
  rcases hm with rfl|rfl
  ·(iterate 14 (rcases i with _|i;(first|exact h|exact absurd hi (by decide)|exact absurd hc (by decide))));exact trivial
  ·(iterate 14 (rcases i with _|i;(first|exact h|exact absurd hi (by decide)|exact absurd hc (by decide))));exact trivial
  ) H ?_ ?_ ?_
 ·clear H;refine aC ?_ ?_ ?_ ?_ (aC ?_ ?_ ?_ ?_ (aC ?_ ?_ ?_ ?_ (bP ?_ (bP ?_ dH))))
  ·intro bq fI aT a w G1 fZ _ _ aP hc hG HT hv;have H:=HT;clear aP;have Hb:=H.full;have H:=Hb;clear hc;refine kH H (Rf vO rfl ?_);clear H;intro a H;refine aB ⟨rfl,?_⟩;exact vJ
  ·intro bq fI aT a w G1 fZ _ _ aP hc hG HT hv;have H:=HT;clear aP;have H:=H.aN (hv 0 3 (hc 0 (by decide)) rfl) rfl;have Hb:=H.full;have H:=Hb;clear hc;refine kH H (Rg kV rfl (aF hG (hga 0 _ rfl)) ?_);clear H;intro a H;refine aB ⟨rfl,?_⟩;exact vJ
  ·intro _ _ _ _ _ _ _ _ hB;exact fV
  ·intro bq fI aT a w G1 fZ _ _ aP hc hG HT hv;have H:=HT;clear aP;have Hb:=H.full;have H:=Hb;clear hc;refine kH H (Rf Cj rfl ?_);clear H;intro a H;refine aB ⟨rfl,?_⟩;exact vJ
  ·intro bq fI aT a w G1 fZ _ _ aP hc hG HT hv;have H:=HT;clear aP;have H:=H.aN (hv 3 6 (hc 3 (by decide)) rfl) rfl;have Hb:=H.full;have H:=Hb;clear hc;refine aV dW (cs:=[aW D.p,vi d.fin.marks.ins,vi d.fin.marks.move,aW D.d,aW D.y]) H wn rfl rfl (fun j v hj=>H.hp.aI (aF hG (by rw [<- hins,<- hmv] at hj;exact nu hb1' 1 _ rfl j v hj))) rfl ?_;clear H;intro a H;refine aB ⟨rfl,?_⟩;exact vJ
  ·intro bq fI aT a w G1 fZ _ _ aP hc hG HT hv;have H:=HT;clear aP;have H:=H.aN (hv 4 7 (hc 4 (by decide)) rfl) rfl;have Hb:=H.full;have H:=Hb;clear hc;refine s_call GU H wn rfl (GK _ _ H.ro d.fin _ _ _ _ _ _ _ _ _ (hhd.mono hG) zh) rfl ?_;clear H;rintro v8 G8 a w nU qy H;refine aB ⟨rfl,?_⟩;exact uT (by kernel_rfl) (gy bq) rfl rfl HT Hb hG hv qy (nU) H
  ·intro bq fI aT a w G1 fZ _ _ aP hc hG HT hv;have H:=HT;clear aP;have Hb:=H.full;have H:=Hb;clear hc;refine kH H (Rf Ck rfl ?_);clear H;intro a H;refine aB ⟨rfl,?_⟩;exact vJ
  ·intro bq fI aT a w G1 fZ _ _ aP hc hG HT hv;have H:=HT;clear aP;have H:=H.aN (hv 6 9 (hc 6 (by decide)) rfl) rfl;have Hb:=H.full;have H:=Hb;clear hc;refine kH H (Rg xu rfl (aF hG (hga 6 _ rfl)) ?_);clear H;intro a H;refine aB ⟨rfl,?_⟩;exact vJ
  ·intro _ _ _ _ _ _ _ _ hB;exact fV
  ·intro bq fI aT a w G1 fZ _ _ aP hc hG HT hv;have H:=HT;clear aP;have Hb:=H.full;have H:=Hb;clear hc;refine kH H (Rf GX rfl ?_);clear H;intro a H;refine aB ⟨rfl,?_⟩;exact vJ
  ·intro bq fI aT a w G1 fZ _ _ aP hc hG HT hv;have H:=HT;clear aP;have H:=H.aN (hv 9 12 (hc 9 (by decide)) rfl) rfl;have Hb:=H.full;have H:=Hb;clear hc;refine aV vo (cs:=[aW D.s1,aW D.s2,aW D.s3,aW D.s4]) H wn rfl rfl (fun j v hj=>H.hp.aI (aF hG (nu hb1' 7 _ rfl j v hj))) rfl ?_;clear H;intro a H;refine aB ⟨rfl,?_⟩;exact vJ
  ·intro bq fI aT a w G1 fZ _ _ aP hc hG HT hv;have H:=HT;clear aP;have H:=H.aN (hv 10 13 (hc 10 (by decide)) rfl) rfl;have Hb:=H.full;have H:=Hb;clear hc;refine s_call alc H wn rfl (akl _ _ H.ro d.iq _ _ _ _ (hst.mono hG) zs IZ.ln IZ.cn IZ.vn IZ.pl IZ.ll) rfl ?_;clear H;rintro v14 Dc a w uw EX H;refine aB ⟨rfl,?_⟩;exact aaJ
  ·intro _ _ _ _ _ _ _ hB;exact fV
  intro _ _ _ _ _ _ _ hB;exact fV
 ·clear H;refine aC ?_ ?_ ?_ ?_ (aC ?_ ?_ ?_ ?_ (aC ?_ ?_ ?_ ?_ (bP ?_ (bP ?_ dH))))
  ·intro hB;exact fV
  ·intro hB;exact fV
  ·intro _ bq fI aT a w G1 fZ _ hc hG HT hv;have H:=HT;have H:=H.aN (hv (.bool false,[]) 1 4 (by decide) (hc 1 (by decide)) rfl) rfl;have Hb:=H.full;have H:=Hb;clear hc;refine iE Ve (Li:=fI) (L:=[]) (H.cast (iF _).symm) wn rfl (akb _ _ (xZ H.ro) d.flow _ (hfl.mono hG) (by omega)) rfl ?_;clear H;rintro v5 G5 L5 a w ⟨xs5,arq,aqf⟩ oz H;have H:=H.perm wG;refine aB ⟨rfl,(v5,L5),?_⟩;exact GR (by kernel_rfl) (gy (yD bq 2 (v5,L5))) rfl HT Hb hG (fun j e h1 h2 h3=>hv (v5,L5) j e h1 h2 h3) oz (⟨rfl,xs5,arq,aqf⟩) H
  ·intro hB;exact fV
  ·intro hB;exact fV
  ·intro hB;exact fV
  ·intro hB;exact fV
  ·intro hB;exact fV
  ·intro _ bq fI aT a w G1 fZ _ hc hG HT hv;have H:=HT;have H:=H.aN (hv (.bool false,[]) 7 10 (by decide) (hc 7 (by decide)) rfl) rfl;have Hb:=H.full;have H:=Hb;clear hc;refine iE acu (Li:=fI) (L:=[]) (H.cast (iF _).symm) wn rfl (abk _ _ (xZ H.ro) _ _ _ _ (qz.mono hG) (by simpa using zr)) rfl ?_;clear H;rintro v11 uG F5 a w ⟨Lj,zQ,Ke⟩ pX H;rw [bQ] at zQ;have H:=H.perm wG;refine aB ⟨rfl,(v11,F5),?_⟩;exact GR (by kernel_rfl) (gy (yD bq 8 (v11,F5))) rfl HT Hb hG (fun j e h1 h2 h3=>hv (v11,F5) j e h1 h2 h3) pX (⟨rfl,Lj,zQ,Ke⟩) H
  ·intro hB;exact fV
  ·intro hB;exact fV
  ·intro hB;exact fV
  ·intro hB;exact fV
  intro hB;exact fV
 clear H;intro bq a w G jy H hv
 simp only [rz,List.flatMap_cons,List.flatMap_nil,cond_true,iF,ko] at H
 obtain ⟨u5,Il,sD⟩:=hv 2 5 (by decide) rfl;(try dsimp only at sD);obtain ⟨h5,xf,Ky,Wu⟩:=sD;obtain ⟨fA,fc,rfl,-,-⟩:=Ky.shape;have H:=H.jC Il;obtain ⟨u8,Bg,nU⟩:=hv 5 8 (by decide) rfl;(try dsimp only at nU);obtain ⟨p8,y8,z8,rfl,Ki⟩:=nU;obtain ⟨a1,a2,a3,rfl⟩:=Ki.props.form;obtain ⟨a4,a5,a6,rfl⟩:=Ki.bJ.form;obtain ⟨a7,a8,a9,rfl⟩:=Ki.layers.form;have H:=H.jC Bg;obtain ⟨YZ,Ik,xV⟩:=hv 8 11 (by decide) rfl;(try dsimp only at xV);obtain ⟨h11,xr,KA,Wv⟩:=xV;obtain ⟨rA,rc,rfl,-,-⟩:=KA.shape;have H:=H.jC Ik;obtain ⟨u14,Nq,uw⟩:=hv 11 14 (by decide) rfl;(try dsimp only at uw);obtain ⟨kU,q14,y14,z14,rfl,Nn⟩:=uw;obtain ⟨c1,c2,c3,rfl⟩:=Nn.st.form;obtain ⟨c4,c5,c6,rfl⟩:=Nn.li.form;obtain ⟨c7,c8,c9,rfl⟩:=Nn.cm.form;obtain ⟨d1,d2,d3,rfl⟩:=Nn.va.form;have H:=H.jC Nq;clear hv;obtain ⟨⟨vF,LF⟩,eF⟩:∃ y,y=bq 2:=⟨_,rfl⟩;obtain ⟨⟨vR,LR⟩,eR⟩:∃ y,y=bq 8:=⟨_,rfl⟩;rw [<- eF,<- eR] at H;rw [<- eF] at Ky h5;rw [<- eR] at KA h11;dsimp only at H Ky KA h5 h11;subst h5;subst h11;rw [<- ko] at H;have H:=H.perm (wG (l₁:=LF++LR) (l₂:=[_]));dsimp only [lca,bM] at H;refine jF YH [_,_,_,_,_,_,_,_,_,_,_] H wn rfl rfl rfl rfl ?_;clear H;intro a H;refine bK gM 0 (vs:=[_,_,_,_,_,_,_,_,_,_,_]) H wn rfl ?_;clear H;intro w H;refine aB ⟨rfl,?_⟩;refine K2 _ _ ?_;clear K2;refine dw ?_;refine (leave1 H results63 (.cons (mI gM (cs:=[_,_,_,_,_,_,_,_,_,_,_]) H rfl rfl (H.hp.cB 0 rfl rfl)) .nil) ?_).1;exact H.hp.ng (L':=LF++LR) (Dm _ _) ⟨⟨(fA,d.flow.length,fc),(a1,a2,a3),(a4,a5,a6),(a7,a8,a9),(rA,d.revs.length,rc),(c1,c2,c3),(c4,c5,c6),(c7,c8,c9),(d1,d2,d3),d.fin.marks.ins,d.fin.marks.move⟩,rfl,xf,LF,xr,LR,rfl,Ky,Wu,KA,Wv,Ki,rfl,rfl,Nn⟩
theorem Vb:aQ 58:=aR func58 rfl
theorem akW:aQ 109:=aR func109 rfl
theorem JJ:aQ 52:=aR func52 rfl
theorem akY:aQ 112:=aR func112 rfl
theorem alM:aQ 173:=aR func173 rfl
theorem akX:aQ 111:=aR func111 rfl
theorem atB {G:GH} (r:aU):uJ (.func (.func 112) #[] #[]) G r.dat (decide (r.cells.length=0)):=by
 intro G1 w0 cs hm hG hr;refine jv (caps:=[]) akY ?_;obtain ⟨pA,pn,pc,dA,dn,dc,yA,yn,yc,fA,fn,fc,rfl,-,hf⟩:=hr.row;have hn:=hf.len;rw [bQ] at hn;subst hn;refine eN [(0,_)] func112 rfl ntmps112 rfl rfl hG ?_;intro a H;refine dz (fun _ K1=>?_);refine eB (cs:=[_,_,_,_,_,_]) H wn rfl rfl rfl ?_;clear H;intro b1 a w hb1 H;exact kH H (aj K1 rfl (SR fun _ K2=>bO yN zm 0 rfl rfl (Rl qj rfl (Rc rfl (aj K2 rfl (LR results112 rfl fun H=>H.rt (gK (decide_eq_decide.2 (by omega)))))))))
theorem akD (G:GH) (w0:World) (hG:Hold G w0) (l:List aU) (v:ah) (hv:ak G (.sl 6 (l.map aU.dat)) v) (hne:∀ r∈l,r.cells≠[]) :
  Calls prog 109 #[v,.func (.func 112) #[] #[]] w0 (bE w0 G fun u G'=>ak G' (.sl 6 (l.map aU.dat)) u):=by
 obtain ⟨A,n,c,rfl⟩:=hv.form
 have hno:l.findIdx? (fun r=>decide (r.cells.length=0))=none:=by
  rw [List.findIdx?_eq_none_iff];intro r hr;exact nk fun h=>hne r hr (List.length_eq_zero_iff.1 h)
 refine eN [(0,_),(1,_)] func109 rfl ntmps109 rfl rfl hG ?_;intro a H;refine kP H (SR fun _ K1=>aj K1 rfl (SR fun _ K2=>Rm rfl (Rm rfl ?_)));clear H K1;intro a H;refine s_call alL H wn rfl (asa _ _ H.ro l (fun r=>decide (r.cells.length=0)) _ _ hv (fun r _=>atB r)) rfl ?_;clear H;rintro v10 BD a w rfl DT H;rw [hno] at H;refine kH H (aj K2 rfl (SQ fun _ K3=>SR fun _ K4=>Rm rfl (Rc rfl (Kz K4 (Cd rfl ?_ ?_))))) <;> clear H K2 K4
 ·intro h12 a H
  exact kP H (SR fun _ K5=>Rm rfl (aj K5 rfl (LR results109 rfl fun H=>H.rt (hv.mono DT))))
 intro h12 a H
 try have rM:=dF h12
 exact absurd rfl rM
def F9 (n:Nat):Prop:=∀ (G:GH) (w0:World),Hold G w0->∀ (l:List au) (v:ah),ak G (.sl 11 (l.map au.dat)) v->wZ l->dx l < n ->
 Calls prog 58 #[v] w0 (bE w0 G fun u G'=>ak G' (.sl 11 ((kK l).map au.dat)) u)
theorem atw {n:Nat} (ih:F9 n) (hn:n<=4294967296) (G:GH) (w0:World) (hG:Hold G w0) (x:aX) (cs:List ah) (hv:bD G x.dat cs) (hne:FB x) (hz:cZ x.dat < n+1) :
  Calls prog 173 #[.agg cs.toArray] w0 (bE w0 G fun u G'=>∃ cs',u=.agg cs'.toArray∧bD G' (nC x).dat cs'):=by
 have he:=Er x;obtain ⟨pA,pn,pc,dA,dn,dc,yA,yn,yc,fA,fn,fc,rfl,hh,hf⟩:=hv.cell;rw [atl] at hne;refine eN [(0,_)] func173 rfl ntmps173 rfl rfl hG ?_;intro a H;refine dz (fun _ K1=>?_);refine eB (cs:=[_,_,_,_,_,_,_]) H wn rfl rfl rfl ?_;clear H;intro b1 a w hb1 H;refine dP kE H wn rfl ?_;clear H;intro b2 a w hb2 H;refine K1 _ _ ?_;clear K1;refine bR (fun _ K2=>?_)
 have gy:BM (fun (dh:Nat) (v:ah) (G:GH)=>match dh with|0=>v=(aK b1 0)|1=>v=vi x.id|2=>v=(aK b1 1)|3=>v=.agg #[.slice pA pn pc,vi x.head.marks.ins,vi x.head.marks.move,.slice dA dn dc,.slice yA yn yc]|4=>∃ p d l,v=.agg #[p,vi x.head.marks.ins,vi x.head.marks.move,d,l]∧jq G x.head p d l|5=>v=(aK b1 6)|6=>v=.slice fA fn fc|7=>ak G (.sl 11 ((kK x.flow).map au.dat)) v|_=>True):=by intro dh v G G' hm h;(iterate 10 (rcases dh with _|dh;(first|exact h|exact let ⟨p,d,l,h1,h2⟩:=h;⟨p,d,l,h1,h2.mono hm⟩|exact ak.mono hm h)));exact trivial
 refine Am (hmx) [[],[0],[],[2],[2,3],[],[5],ra 2 5,ra 0 8,ra 0 9] [8,9] (by kernel_rfl) (by kernel_rfl) _ gy H ?_ ?_
 ·clear H;refine aC ?_ ?_ ?_ ?_ (aC ?_ ?_ ?_ ?_ (bP (bU rfl) (bP (bU rfl) dH)))
  ·refine dD [] rfl trivial (by kernel_rfl) gy rfl rfl ?_;intro aT a w G1 hG HT H fin;exact kH H (Rf JW rfl fun _ H=>fin H iJ rfl)
  ·refine dD [(0,3,_)] rfl ⟨fun _ _ h=>h,ay⟩ (by kernel_rfl) gy rfl rfl ?_;intro aT a w G1 hG HT H fin;exact kH H (Ro aG 1 rfl fun _ H=>fin H iJ rfl)
  ·refine dD [] rfl trivial (by kernel_rfl) gy rfl rfl ?_;intro aT a w G1 hG HT H fin;exact kH H (Rf He rfl fun _ H=>fin H iJ rfl)
  ·refine dD [(2,5,_)] rfl ⟨fun _ _ h=>h,ay⟩ (by kernel_rfl) gy rfl rfl ?_;intro aT a w G1 hG HT H fin;refine aV dW (cs:=[_,_,_,_,_]) H wn rfl rfl (H.hp.cB 1 rfl rfl) rfl ?_;clear H;intro a H;exact dZ
  ·refine dD [(3,6,_)] rfl ⟨fun _ _ h=>h,ay⟩ (by kernel_rfl) gy rfl rfl ?_;intro aT a w G1 hG HT H fin;refine s_call GU H wn rfl (GK _ _ H.ro x.head _ _ _ _ _ _ _ _ _ (hh.mono hG) (by omega)) rfl ?_;clear H;rintro v7 G7 a w D6 J5 H;exact fin H J5 (D6)
  ·refine dD [] rfl trivial (by kernel_rfl) gy rfl rfl ?_;intro aT a w G1 hG HT H fin;exact kH H (Rf EO rfl fun _ H=>fin H iJ rfl)
  ·refine dD [(5,8,_)] rfl ⟨fun _ _ h=>h,ay⟩ (by kernel_rfl) gy rfl rfl ?_;intro aT a w G1 hG HT H fin;exact Ug
  refine dD [(6,9,_)] rfl ⟨fun _ _ h=>h,ay⟩ (by kernel_rfl) gy rfl rfl ?_;intro aT a w G1 hG HT H fin;refine s_call Vb H wn rfl (ih _ _ H.ro x.flow _ (hf.mono hG) hne (by omega)) rfl ?_;clear H;rintro v10 BD a w uX tq H;exact fin H tq (uX)
 clear H;intro a w G jy H hv;have H:=H.aN (hv 1 4 rfl rfl) rfl;obtain ⟨u7,Xe,D6⟩:=hv 4 7 (by decide) rfl;(try dsimp only at D6);obtain ⟨p7,d7,l7,rfl,AZ⟩:=D6;obtain ⟨a1,a2,a3,rfl⟩:=AZ.props.form;obtain ⟨a4,a5,a6,rfl⟩:=AZ.bJ.form;obtain ⟨a7,a8,a9,rfl⟩:=AZ.layers.form;have H:=H.jC Xe;obtain ⟨u10,Np,uX⟩:=hv 7 10 (by decide) rfl;(try dsimp only at uX);obtain ⟨Zi,n10,c10,rfl⟩:=uX.form;have H:=H.jC Np;clear hv;refine jF YP [_,_,_,_,_,_,_] H wn rfl rfl rfl rfl ?_;clear H;intro a H;refine bK kE 0 (vs:=[_,_,_,_,_,_,_]) H wn rfl ?_;clear H;intro w H;refine aB ⟨rfl,?_⟩;refine K2 _ _ ?_;clear K2;refine dw ?_;refine (leave1 H results173 (.cons (mI kE (cs:=[_,_,_,_,_,_,_]) H rfl rfl (H.hp.cB 0 rfl rfl)) .nil) ?_).1;exact H.rt ⟨_,rfl,by rw [atc];exact bD.Q9 (x:=.mk x.id x.head (kK x.flow)) AZ uX⟩
theorem atx {n:Nat} (ih:F9 n) (hn:n<=4294967296) {G:GH} {w0:World} (x:aX) (hne:FB x) (hz:cZ x.dat < n+1):Da (.func (.func 173) #[] #[]) w0 G x.dat (nC x).dat:=by
 intro G1 w1 cs hm1 hG1 hr;have h:=atw ih hn _ _ hG1 x cs hr hne hz;have h2:=jv (P:=prog) (caps:=[]) (args:=[.agg cs.toArray]) alM h;exact h2
theorem aty {n:Nat} (ih:F9 n) (hn:n<=4294967296) (G:GH) (w0:World) (hG:Hold G w0) (x:aU) (cs:List ah) (hv:bD G x.dat cs) (hne:FD x) (hz:cZ x.dat < n+1) :
  Calls prog 111 #[.agg cs.toArray] w0 (bE w0 G fun u G'=>∃ cs',u=.agg cs'.toArray∧bD G' (nR x).dat cs'):=by
 have he:=Es x;have hl:=OB x.cells;obtain ⟨pA,pn,pc,dA,dn,dc,yA,yn,yc,fA,fn,fc,rfl,hh,hf⟩:=hv.row;rw [afC] at hne;refine eN [(0,_)] func111 rfl ntmps111 rfl rfl hG ?_;intro a H;refine dz (fun _ K1=>?_);refine eB (cs:=[_,_,_,_,_,_]) H wn rfl rfl rfl ?_;clear H;intro b1 a w hb1 H;refine dP jG H wn rfl ?_;clear H;intro b2 a w hb2 H;refine K1 _ _ ?_;clear K1;refine bR (fun _ K2=>?_)
 have gy:BM (fun (dh:Nat) (v:ah) (G:GH)=>match dh with|0=>v=(aK b1 0)|1=>v=.agg #[.slice pA pn pc,vi x.head.marks.ins,vi x.head.marks.move,.slice dA dn dc,.slice yA yn yc]|2=>∃ p d l,v=.agg #[p,vi x.head.marks.ins,vi x.head.marks.move,d,l]∧jq G x.head p d l|3=>v=(aK b1 5)|4=>v=.slice fA fn fc|5=>ak G (.sl 7 (x.cells.map fun y=>(nC y).dat)) v|_=>True):=by intro dh v G G' hm h;(iterate 8 (rcases dh with _|dh;(first|exact h|exact let ⟨p,d,l,h1,h2⟩:=h;⟨p,d,l,h1,h2.mono hm⟩|exact ak.mono hm h)));exact trivial
 refine Am (hmx) [[],[0],[0,1],[],[3],ra 0 5,ra 0 6,ra 0 7] [6,7] (by kernel_rfl) (by kernel_rfl) _ gy H ?_ ?_
 ·clear H;refine aC ?_ ?_ ?_ ?_ (aC ?_ ?_ (bU rfl) (bU rfl) dH)
  ·refine dD [] rfl trivial (by kernel_rfl) gy rfl rfl ?_;intro aT a w G1 hG HT H fin;exact kH H (Rf GZ rfl fun _ H=>fin H iJ rfl)
  ·refine dD [(0,3,_)] rfl ⟨fun _ _ h=>h,ay⟩ (by kernel_rfl) gy rfl rfl ?_;intro aT a w G1 hG HT H fin;refine aV dW (cs:=[_,_,_,_,_]) H wn rfl rfl (H.hp.cB 1 rfl rfl) rfl ?_;clear H;intro a H;exact dZ
  ·refine dD [(1,4,_)] rfl ⟨fun _ _ h=>h,ay⟩ (by kernel_rfl) gy rfl rfl ?_;intro aT a w G1 hG HT H fin;refine s_call GU H wn rfl (GK _ _ H.ro x.head _ _ _ _ _ _ _ _ _ (hh.mono hG) (by omega)) rfl ?_;clear H;rintro v5 G5 a w sD oz H;exact fin H oz (sD)
  ·refine dD [] rfl trivial (by kernel_rfl) gy rfl rfl ?_;intro aT a w G1 hG HT H fin;exact kH H (Rf yN rfl fun _ H=>fin H iJ rfl)
  ·refine dD [(3,6,_)] rfl ⟨fun _ _ h=>h,ay⟩ (by kernel_rfl) gy rfl rfl ?_;intro aT a w G1 hG HT H fin;exact kH H (Ro zm 1 rfl fun _ H=>fin H iJ rfl)
  refine dD [(4,7,_)] rfl ⟨fun _ _ h=>h,ay⟩ (by kernel_rfl) gy rfl rfl ?_;intro aT a w G1 hG HT H fin;refine s_call acd H wn rfl (abR nC _ _ H.ro x.cells _ _ (hf.mono hG) (by omega) (fun y hy=>atx ih hn y (afA hne.2 y hy) (by have:=ahU hy;omega))) rfl ?_;clear H;rintro v8 G8 a w nU qy H;exact fin H qy (nU)
 clear H;intro a w G jy H hv;obtain ⟨u5,Il,sD⟩:=hv 2 5 (by decide) rfl;(try dsimp only at sD);obtain ⟨p5,d5,l5,rfl,uq⟩:=sD;obtain ⟨a1,a2,a3,rfl⟩:=uq.props.form;obtain ⟨a4,a5,a6,rfl⟩:=uq.bJ.form;obtain ⟨a7,a8,a9,rfl⟩:=uq.layers.form;have H:=H.jC Il;obtain ⟨u8,Bg,nU⟩:=hv 5 8 (by decide) rfl;(try dsimp only at nU);obtain ⟨A8,n8,c8,rfl⟩:=nU.form;have H:=H.jC Bg;clear hv;refine jF YK [_,_,_,_,_,_] H wn rfl rfl rfl rfl ?_;clear H;intro a H;refine bK jG 0 (vs:=[_,_,_,_,_,_]) H wn rfl ?_;clear H;intro w H;refine aB ⟨rfl,?_⟩;refine K2 _ _ ?_;clear K2;refine dw ?_;refine (leave1 H results111 (.cons (mI jG (cs:=[_,_,_,_,_,_]) H rfl rfl (H.hp.cB 0 rfl rfl)) .nil) ?_).1;exact H.rt ⟨_,rfl,by rw [afv];exact bD.Rb (x:=.mk x.head (x.cells.map nC)) uq (by show ak _ (.sl 7 ((x.cells.map nC).map aX.dat)) _;rw [List.map_map];exact nU)⟩
theorem atz {n:Nat} (ih:F9 n) (hn:n<=4294967296) {G:GH} {w0:World} (x:aU) (hne:FD x) (hz:cZ x.dat < n+1):Da (.func (.func 111) #[] #[]) w0 G x.dat (nR x).dat:=by
 intro G1 w1 cs hm1 hG1 hr;have h:=aty ih hn _ _ hG1 x cs hr hne hz;have h2:=jv (P:=prog) (caps:=[]) (args:=[.agg cs.toArray]) akX h;exact h2
theorem joined {G:GH} {o:List au} {z y:au} {x0:List ah} {s p d q f r:ah} (hc:dK G 11 (o.map au.dat) x0) (hl:x0.length=o.length*11) (hh:jq G z.head p d q) (hf:ak G (.sl 11 (z.flow.map au.dat)) f) (hr:ak G (.sl 6 (z.rows.map aU.dat)) r) (hs:s=.string (z.text++y.text)) :
  dK G 11 ((o++[mR z y]).map au.dat) ((x0++[vi z.kind,vi z.code,vi z.id,.string z.text,p,vi z.head.marks.ins,vi z.head.marks.move,d,q,f,r]).set (((o++[z]).length - 1)*11+3) s):=by
 rw [lW,jM,List.length_singleton,Nat.add_sub_cancel,List.set_append_right _ _ (by omega),hl,LM];refine hc.snoc ?_ rfl;rw [hs];exact bD.mkItem (x:=mR z y) hh hf hr
theorem Py {s:ByteArray} {k:Int} {n:Nat} (hk:k=1):(s.toList == (⟨#[]⟩:ByteArray).toList)=true↔(k=7∧n=0)∨(k=1∧s.size=0):=by
 rw [beq_iff_eq,ByteArray.toList_eq,ByteArray.toList_eq]
 constructor
 ·intro h;refine .inr ⟨hk,?_⟩;have:=cO List.length h
  simpa using this
 rintro (⟨h,-⟩|⟨-,h⟩)
 ·omega
 have:s.data.toList.length=0:=by simpa using h
 rw [List.length_eq_zero_iff.1 this]
theorem LZ {p:Prop} (h:p:=by
 exact fin H iJ (by show _=_;first|rfl|exact cO (fun A=>Value.slice A out.length vc) (hvA c2))):p:=h
theorem L9 {p:Prop} (h:p:=by
 first
  | exact absurd ((aH c4).symm.trans h) (by decide)
  | (rw [hos]
     refine Dl hnd fun o2 z2 e2 hj=>?_;rw [qb,hyk,hyh] at hj;obtain ⟨j1,j2,j3⟩:=hj
     first
       | exact c1 j1
       | (have c2':0 < (out.length:Int):=by rw [e2,jM,List.length_singleton];omega
          obtain ⟨o,z,_,_,_,e,_,epk,_⟩:=Cz c2';obtain ⟨-,ez⟩:=List.append_inj' (e2.symm.trans e) rfl
          injection ez with ez
          subst ez
          first
            | exact c2 c2'
            | exact c3 (by rw [epk];exact j2)
            | exact c4 (by rw [epk];exact j3)))):p:=h
set_option maxHeartbeats 4000000 in
theorem atA {n:Nat} (ih:F9 n) (hn:n<=1073741824):F9 (n+1):=by
  intro G w0 hG l v hv hne hz;obtain ⟨A,c,rfl,hc1,hc2,hg⟩:=hv.slice
  have hml:4294967297<=maxLen:=by decide
  have htl:pq l<=dx l:=ahm l;have hll:l.length<=pq l:=XE l;rw [bQ] at *;refine eN [(0,_)] func58 rfl ntmps58 rfl rfl hG ?_;intro a H;refine kP H (SR fun _ K1=>aj K1 rfl (SR fun _ K2=>aj K2 rfl (SQ fun _ K3=>SR fun _ K4=>Rm rfl (Rl jo rfl (Rm rfl (Kz K4 (SB ?_)))))));clear H K1 K2 K4;intro a H;skip;refine fF (ι:=Nat × ah × List ah × OL × GH) (Tc:=[(7,_),(8,_)]) (Lc:=[]) (fun gh=>[(3,gh.2.1),(9,vi gh.1)]) (fun gh=>[]++gh.2.2.2.1) (fun gh=>gh.2.2.2.2) (fun gh=>gh.1<=l.length∧dR 68 11 gh.2.1 (uY l gh.1).length gh.2.2.1 gh.2.2.2.1∧dK gh.2.2.2.2 11 ((uY l gh.1).map au.dat) gh.2.2.1∧(∀ b o,G b=some o->gh.2.2.2.2 b=some o)) (fun gh=>l.length - gh.1) ((0,.slice none 0 0,[],[],G)) (by exact H.sub ⟨rfl,rfl,rfl,rfl,ay⟩) ?_ ?_
  · exact Jt
  clear H;rintro ⟨k,v,xs,Lo,g⟩ a w hI H;dsimp only at hI H;obtain ⟨hk,hrw,fQ,hgm⟩:=hI;have hol:=atL hk;obtain ⟨out,hout⟩:∃ o,o=uY l k:=⟨_,rfl⟩;rw [<- hout] at hrw fQ hol;dsimp only [lca,bM] at H;refine kP H (SR fun _ K5=>Rc rfl (Kz K5 (SQ fun _ K6=>Cd rfl ?_ ?_))) <;> clear H K5
  · intro h10 a H
    try have jd:=dT h10
    have hk2:k < l.length:=by omega
    have hos:=afP hk2;have hot:=X5 (l:=l) (k:=k) (by omega);have htt:=ahn l (k+1);rw [kg hk2,IW] at htt
    simp only [pq] at htt
    rw [<- hout] at hos hot;obtain ⟨vA,vc,rfl,-,-⟩:=hrw.shape;obtain ⟨b,o,pA,pn,pc,dA,dn,dc,yA,yn,yc,fA,fn,fc,rA,rn,rc,rfl,hrow,hhd,hfl,hrs⟩:=JX hk2 hg;replace hrow:=fun j u hj=>aF hgm (hrow j u hj);have hnx:=afB hne _ (lC hk2);rw [atm] at hnx;obtain ⟨hnf,hnr⟩:=hnx;have hzi:=OC hk2;have hze:=Ac l[k];have hrl:=OD l[k].rows
    have ark:∀ r∈l[k].rows.map nR,r.cells≠[]:=fun r hr=>by
      obtain ⟨x,hx,rfl⟩:=List.mem_map.1 hr;have h1:=XU hnr x hx;rw [afC] at h1;rw [afv];exact fun e=>h1.1 (List.map_eq_nil_iff.1 e)
    refine kP H (Kc K6 (SQ fun _ K7=>SB (SR fun _ K8=>Ri jo gN rfl rfl ?_)));clear H K6;intro a H;refine aV gN (cs:=[_,_,_,_,_,_,_,_,_,_,_]) H wn rfl rfl (fun j v hj=>H.hp.aI (hrow j v hj)) rfl ?_;clear H;intro a H;refine dP gN H wn rfl ?_;clear H;intro b5 a w hb5 H;refine bK gN 0 (vs:=[_,_,_,_,_,_,_,_,_,_,_]) H wn rfl ?_;clear H;intro w H;refine K8 _ _ ?_;clear K8;refine kP H (SR fun _ K9=>Rf wK rfl ?_);clear H;intro a H;refine aV dW (cs:=[_,_,_,_,_]) H wn rfl rfl (H.hp.cB 0 rfl rfl) rfl ?_;clear H;intro a H;refine s_call GU H wn rfl (GK _ _ H.ro _ _ _ _ _ _ _ _ _ _ (hhd.mono hgm) (by omega)) rfl ?_;clear H;rintro v15 Df a w ⟨tF,d15,l15,rfl,Kh⟩ A9 H;obtain ⟨a1,a2,a3,rfl⟩:=Kh.props.form;obtain ⟨a4,a5,a6,rfl⟩:=Kh.bJ.form;obtain ⟨a7,a8,a9,rfl⟩:=Kh.layers.form;refine kH H (Rf wK rfl ?_);clear H;intro a H;refine bK dW 0 (vs:=[_,_,_,_,_]) H wn rfl ?_;clear H;intro w H;refine K9 _ _ ?_;clear K9;refine kP H (SR fun _ aS=>bO zK kV 0 rfl rfl ?_);clear H;intro a H;refine s_call Vb H wn rfl (ih _ _ H.ro l[k].flow _ (hfl.mono fun b o h=>A9 b o (hgm b o h)) hnf (by omega)) rfl ?_;clear H;rintro v19 I8 a w Ng tu H;obtain ⟨I4,n19,c19,rfl⟩:=Ng.form;refine kH H (Rf zK rfl ?_);clear H;intro a H;refine bK kV 0 (vs:=[_]) H wn rfl ?_;clear H;intro w H;refine aS _ _ ?_;clear aS;refine kP H (SR fun _ bH=>bO um uE 0 rfl rfl ?_);clear H;intro a H;refine s_call abV H wn rfl (abS nR _ _ H.ro l[k].rows _ _ (hrs.mono fun b o h=>tu b o (A9 b o (hgm b o h))) (by omega) (fun x hx=>atz ih (by omega) x (XU hnr x hx) (by have:=ahY hx;omega))) rfl ?_;clear H;rintro v23 Zr a w WS E5 H;rw [show (l[k].rows.map fun x=>(nR x).dat)=(l[k].rows.map nR).map aU.dat by rw [List.map_map];rfl] at WS;obtain ⟨A23,n23,c23,rfl⟩:=WS.form;refine s_call akW H wn rfl (akD _ _ H.ro (l[k].rows.map nR) _ WS ark) rfl ?_;clear H;rintro v24 Ev a w WT H6 H;obtain ⟨Ta,n24,c24,rfl⟩:=WT.form;have aee:=WT.len;rw [bQ,bQ] at aee;subst aee;refine kH H (Rf um rfl ?_);clear H;intro a H;refine bK uE 0 (vs:=[_]) H wn rfl ?_;clear H;intro w H;refine bH _ _ ?_;clear bH;refine bR (fun _ bT=>?_);obtain ⟨y,hy⟩:∃ y,y=nI l[k]:=⟨_,rfl⟩;have hye:=hy.trans (afu l[k])
    have hyk:y.kind=l[k].kind:=by rw [hye];rfl
    have Nt:y.text=l[k].text:=by rw [hye];rfl
    have hyh:y.head=l[k].head:=by rw [hye];rfl
    have QW:y.rows.length=l[k].rows.length:=by rw [hye];simp [au.rows]
    rw [<- hy] at hos;obtain ⟨UD,Qv⟩:∃ x,x=[vi l[k].kind,vi l[k].code,vi l[k].id,.string l[k].text,.slice a1 a2 a3,vi l[k].head.marks.ins,vi l[k].head.marks.move,.slice a4 a5 a6,.slice a7 a8 a9,.slice I4 n19 c19,.slice Ta l[k].rows.length c24]:=⟨_,rfl⟩
    have aew:bD Ev y.dat UD:=by
      rw [Qv,hye];exact bD.mkItem (x:=.mk l[k].kind l[k].code l[k].id l[k].text l[k].head (kK l[k].flow) (l[k].rows.map nR)) (Kh.mono fun b o h=>H6 b o (E5 b o (tu b o h))) (Ng.mono fun b o h=>H6 b o (E5 b o h)) WT
    have Qt:=fQ.mono fun b o h=>H6 b o (E5 b o (tu b o (A9 b o h)));have adM:∀ b o,G b=some o->Ev b=some o:=fun b o h=>H6 b o (E5 b o (tu b o (A9 b o (hgm b o h))));refine kP H (SC (Rm rfl (Rl jo rfl (bG bT rfl (SB ?_)))));clear H bT;intro a H;refine uf (ι:=Bool) (Tc:=[(3,_),(5,_),(6,_),(7,_),(8,_),(9,_)]) (Lc:=[]) (fun gh=>[(32,.bool gh)]) (fun gh=>[(b5,.cells [vi l[k].kind,vi l[k].code,vi l[k].id,.string l[k].text,.slice a1 a2 a3,vi l[k].head.marks.ins,vi l[k].head.marks.move,.slice a4 a5 a6,.slice a7 a8 a9,.slice I4 n19 c19,.slice Ta l[k].rows.length c24].toArray 68 (0,0))]++Lo) (fun gh=>Ev) (fun gh=>gh=true↔ru y) (by exact H.sub ⟨rfl,rfl,rfl,rfl,rfl,rfl,ay⟩) ?_ ?_
    · skip;refine kP H (SC (bO lS aG 0 rfl rfl (Rc rfl (Rm rfl (Sp 36 rfl ?_ ?_))))) <;> clear H
      · intro wN a H
        try have p36:=dT wN
        refine kH H (YF um wN rfl (YO uE 0 wN rfl (YL nM wN rfl (YC wN rfl (Pt wN rfl (Rm rfl (Sp 42 rfl ?_ ?_))))))) <;> clear H
        · intro kI a H
          try have p42:=dT kI
          refine kH H (aJ kI rfl (aJ kI rfl (Ku rfl (Ku rfl (Ku rfl (Ks kI rfl (Pt kI rfl (Ra rfl ?_))))))));clear H;intro a H;refine aB ?_;refine ⟨_,by exact H.sub ⟨rfl,rfl,rfl,rfl,rfl,rfl,rfl,ay⟩,?_⟩;rw [ru,hyk,QW,Nt]
          first
            | exact ⟨fun _=>.inl ⟨p36,by omega⟩,fun _=>by first|rfl|exact mM p42⟩
            | exact ⟨fun h=>(by cases h),fun h=>(by exfalso;omega)⟩
            | exact Py p46
            | fail
        intro kI a H
        try have p42:=dF kI
        refine kH H (YF lS kI rfl (YO aG 0 kI rfl (YC kI rfl (YM kI rfl (Sp 46 rfl ?_ ?_))))) <;> clear H
        · intro h46 a H
          try have p46:=dT h46
          exfalso;omega
        intro h46 a H
        try have p46:=dF h46
        refine kH H (aM h46 rfl (PF kI h46 rfl (Pf kI rfl (Ra rfl ?_))));clear H;intro a H;refine aB ?_;refine ⟨_,by exact H.sub ⟨rfl,rfl,rfl,rfl,rfl,rfl,rfl,ay⟩,?_⟩;rw [ru,hyk,QW,Nt]
        first
          | exact ⟨fun _=>.inl ⟨p36,by omega⟩,fun _=>by first|rfl|exact mM p42⟩
          | exact ⟨fun h=>(by cases h),fun h=>(by exfalso;omega)⟩
          | exact Py p46
          | fail
      intro wN a H
      try have p36:=dF wN
      refine kH H (aJ wN rfl (aJ wN rfl (Pf wN rfl (Rm rfl ?_))));clear H;intro a H;refine KR lS H (wg H rfl rfl rfl) rfl rfl ?_;clear H;intro a H;refine rO aG H (wg H rfl rfl rfl) rfl (H.hp.tC 0 rfl rfl) rfl ?_;clear H;intro a H;refine FI H (wg H rfl rfl rfl) rfl rfl rfl rfl ?_;clear H;intro a H;refine FK H (wg H rfl rfl rfl) rfl rfl ?_;clear H;intro a H;refine Yx H 46 rfl ?_ ?_
      · intro h46
        try have p46:=dT h46
        refine kH H (YF vP h46 rfl (YO iR 0 h46 rfl ?_));clear H;intro a H;refine CU H (wg H rfl rfl h46) rfl rfl rfl ?_;clear H;intro a H;refine NW H (wg H rfl rfl rfl) rfl h46 rfl rfl ?_;clear H;intro a H;refine kH H (Pf rfl rfl (Ra rfl ?_));clear H;intro a H;refine aB ?_;refine ⟨_,by exact H.sub ⟨rfl,rfl,rfl,rfl,rfl,rfl,rfl,ay⟩,?_⟩;rw [ru,hyk,QW,Nt]
        first
          | exact ⟨fun _=>.inl ⟨p36,by omega⟩,fun _=>by first|rfl|exact mM p42⟩
          | exact ⟨fun h=>(by cases h),fun h=>(by exfalso;omega)⟩
          | exact Py p46
          | fail
      intro h46
      try have p46:=dF h46
      refine kH H (aM h46 rfl ?_);clear H;intro a H;refine Sk H (wg H rfl rfl rfl) rfl h46 rfl rfl ?_;clear H;intro a H;refine kH H (Pf rfl rfl (Ra rfl ?_));clear H;intro a H;refine aB ?_;refine ⟨_,by exact H.sub ⟨rfl,rfl,rfl,rfl,rfl,rfl,rfl,ay⟩,?_⟩;rw [ru,hyk,QW,Nt]
      first
        | exact ⟨fun _=>.inl ⟨p36,by omega⟩,fun _=>by first|rfl|exact mM p42⟩
        | exact ⟨fun h=>(by cases h),fun h=>(by exfalso;omega)⟩
        | exact Py p46
        | fail
    clear H;intro db a w hI H;skip;dsimp only [lca,bM] at H;refine jr H rfl ?_ ?_
    · intro h32
      try have p32:=dT h32
      have hdp:=hI.1 (by assumption);rw [Jh hdp] at hos;refine kP H (Kc K7 (SC (Rd rfl (Rm rfl ?_))));clear H K7;intro a H;refine aB ?_;refine dJ ((k+1,_,xs,Lo,_)) (by exact (H.fG (Pl:=[_]) (eH:=[]) [] (by decide) rfl).sub ⟨rfl,rfl,rfl,rfl,ay⟩) ?_
      (try dsimp only);exact ⟨by omega,by rw [hos];exact hrw,by rw [hos];exact Qt,adM⟩
    intro h32
    try have p32:=dF h32
    have hnd:¬ ru y:=fun h=>by have:=hI.2 h;simp_all
    obtain ⟨bo,pk,pt,pp,pd,pl,Cz⟩:∃ (bo:Nat) (pk:dN × Int) (pt:ByteArray) (pp pd pl:ah),0 < (out.length:Int)->∃ (o:List au) (z:au) (x0:List ah) (f r:ah),out=o++[z]∧vA=some ⟨bo,0,none⟩∧pk=(z.head,z.kind)∧pt=z.text ∧
        xs=x0++[vi z.kind,vi z.code,vi z.id,.string z.text,pp,vi z.head.marks.ins,vi z.head.marks.move,pd,pl,f,r]∧x0.length=o.length*11∧dK Ev 11 (o.map au.dat) x0∧jq Ev z.head pp pd pl∧ak Ev (.sl 11 (z.flow.map au.dat)) f∧ak Ev (.sl 6 (z.rows.map aU.dat)) r ∧
        ∀ j u,[vi pk.2,vi z.code,vi z.id,.string pt,pp,vi pk.1.marks.ins,vi pk.1.marks.move,pd,pl][j]?=some u->xs[(out.length - 1)*11+j]?=some u:=by
      by_cases h0:0 < out.length
      · obtain ⟨bo,hbo⟩:=hrw.ptr h0;obtain ⟨o,z,e⟩:∃ o z,out=o++[z]:=⟨_,_,(List.dropLast_concat_getLast (fun e=>by rw [e] at h0;simp at h0)).symm⟩;rw [e,lW] at Qt;obtain ⟨x0,cs,hxs,hc0,hrz,hcl,hxl⟩:=Qt.awQ;obtain ⟨qA,qn,qc,sA,sn,sc,tA,tn,tc,JM,JZ,JN,rA2,rn2,rc2,rfl,hh,hf2,hr2⟩:=hrz.item;rw [bQ] at hxl;refine ⟨bo,(z.head,z.kind),z.text,.slice qA qn qc,.slice sA sn sc,.slice tA tn tc,fun _=>⟨o,z,x0,_,_,e,hbo,rfl,rfl,hxs,hxl,hc0,hh,hf2,hr2,fun j u hj=>?_⟩⟩;rw [hxs,e,jM,List.length_singleton,Nat.add_sub_cancel,uM (by omega),hxl,LM];rw [<- hj]
        match j,hj with
        | 0,hj=>rfl
        | 1,hj=>rfl
        | 2,hj=>rfl
        | 3,hj=>rfl
        | 4,hj=>rfl
        | 5,hj=>rfl
        | 6,hj=>rfl
        | 7,hj=>rfl
        | 8,hj=>rfl
        | _+9,hj=>simp at hj
      exact ⟨0,(⟨[],⟨0,0,[],[]⟩⟩,0),⟨#[]⟩,.slice none 0 0,.slice none 0 0,.slice none 0 0,fun h=>by omega⟩
    have hvA:0 < (out.length:Int)->vA=some ⟨bo,0,none⟩:=fun h=>by obtain ⟨_,_,_,_,_,_,e,_⟩:=Cz h;exact e
    refine uf (ι:=Bool × GH) (Tc:=[(3,_),(5,_),(6,_),(7,_),(8,_),(9,_)]) (Lc:=[]) (fun gh=>[(52,.bool gh.1)]) (fun gh=>[(b5,.cells [vi l[k].kind,vi l[k].code,vi l[k].id,.string l[k].text,.slice a1 a2 a3,vi l[k].head.marks.ins,vi l[k].head.marks.move,.slice a4 a5 a6,.slice a7 a8 a9,.slice I4 n19 c19,.slice Ta l[k].rows.length c24].toArray 68 (0,0))]++Lo) (fun gh=>gh.2) (fun gh=>(gh.1=true->(l[k].kind=1∧0 < (out.length:Int)∧pk.2=1∧pk.1=l[k].head))∧(gh.1=false->uY l (k+1)=out++[y])∧(∀ b o,Ev b=some o->gh.2 b=some o)) (by exact H.sub ⟨rfl,rfl,rfl,rfl,rfl,rfl,ay⟩) ?_ ?_
    · skip
      by_cases c1:l[k].kind=1
      · skip
        by_cases c2:0 < (out.length:Int)
        · skip
          by_cases c3:pk.2=1
          · skip
            by_cases c4:pk.1=l[k].head
            · skip;refine dI hmx [[],[0],[0,1],[0,1,2],ra 0 4,ra 0 5,ra 0 6,ra 0 7,ra 0 8,ra 0 8,(ra 0 8++[9]),ra 0 11,ra 0 12,ra 0 13,ra 0 14,ra 0 15,ra 0 16,ra 0 17,ra 0 17,(ra 0 17++[18]),ra 0 20,ra 0 21,ra 0 22,ra 0 17,(ra 0 17++[23]),ra 0 25,ra 0 26,ra 0 27] [] (by kernel_rfl) [_,vi l[k].kind,_,_,_,_,_,_,.slice (some ⟨bo,0,none⟩) out.length vc,_,vi ((out.length - 1:Nat):Int),_,_,vi pk.2,_,_,_,.slice (some ⟨bo,0,none⟩) out.length vc,_,vi ((out.length - 1:Nat):Int),_,_,sj pk.1 pp pd pl,_,sj l[k].head (.slice a1 a2 a3) (.slice a4 a5 a6) (.slice a7 a8 a9),.bool (decide (pk.1=l[k].head)),_,_] H (aC (Z0 rfl (Rf lS rfl)) (Z1 0 53 rfl (Ro aG 0 rfl)) (Z1 1 54 rfl (Rc rfl)) (Z1 2 55 rfl (Rm rfl)) (aC (Z1 3 56 rfl (YM (aH c1) rfl)) (Z2 4 57 3 56 rfl (YC (aH c1) rfl)) (Z2 3 56 5 58 rfl (Pt (aH c1) rfl)) (Z1 6 59 rfl (Rm rfl)) (aC ?_ (Z1 7 60 rfl (YM (aH c2) rfl)) ?_ (Z3 8 61 10 63 7 60 rfl (YI jo gN (aH c2) rfl rfl)) (aC (Z2 11 64 7 60 rfl (YF lS (aH c2) rfl)) ?_ (Z2 13 66 7 60 rfl (YC (aH c2) rfl)) (Z2 7 60 14 67 rfl (Pt (aH c2) rfl)) (aC (Z1 15 68 rfl (Rm rfl)) ?_ (Z1 16 69 rfl (YM (aH c3) rfl)) ?_ (aC (Z3 17 70 19 72 16 69 rfl (YI jo gN (aH c3) rfl rfl)) (Z2 20 73 16 69 rfl (YF wK (aH c3) rfl)) ?_ (Z1 16 69 rfl (YF wK (aH c3) rfl)) (aC ?_ ?_ (Z2 16 69 25 78 rfl (Pt (aH c3) rfl)) (Z1 26 79 rfl (Ra rfl)) dH))))))) ?_
              · refine eY 7 60 rfl rfl fun _ a w G1 hG HT H fin=>?_;refine kH H (YM (aH c2) rfl ?_);clear H;intro a H;exact LZ
              · refine dO 9 62 7 60 rfl rfl fun _ a w G1 hG HT H fin=>?_;refine nL _ H (wg H rfl rfl (aH c2)) rfl rfl rfl (by omega) (by omega) rfl ?_;clear H;intro a H;exact qF
              · refine dO 12 65 7 60 rfl rfl fun _ a w G1 hG HT H fin=>?_;obtain ⟨_,_,_,_,_,_,rfl,_,_,_,_,_,_,_,_,hx⟩:=Cz c2;refine rO aG H (wg H rfl rfl (aH c2)) rfl (hrw.at H.hp (fun x hx=>gV _ hx) (by rw [iA];exact hx 0 _ rfl)) rfl ?_;clear H;intro a H;exact dZ
              · refine eY 16 69 rfl rfl fun _ a w G1 hG HT H fin=>?_;refine kH H (YM (aH c3) rfl ?_);clear H;intro a H;exact LZ
              · refine dO 18 71 16 69 rfl rfl fun _ a w G1 hG HT H fin=>?_;refine nL _ H (wg H rfl rfl (aH c3)) rfl rfl rfl (by omega) (by omega) rfl ?_;clear H;intro a H;exact qF
              · refine dO 21 74 16 69 rfl rfl fun _ a w G1 hG HT H fin=>?_;obtain ⟨_,_,_,_,_,_,rfl,_,_,_,_,_,_,_,_,hx⟩:=Cz c2
                refine aV dW (cs:=[pp,vi pk.1.marks.ins,vi pk.1.marks.move,pd,pl]) H (wg H rfl rfl (aH c3)) rfl rfl (fun j u hj=>hrw.at H.hp (fun x hx=>gV _ hx) (by
                    rw [iA,Nat.add_assoc];refine hx (4+j) u ?_
                    match j,hj with
                    | 0,hj=>exact hj
                    | 1,hj=>exact hj
                    | 2,hj=>exact hj
                    | 3,hj=>exact hj
                    | 4,hj=>exact hj)) rfl ?_;clear H;intro a H
                exact dZ
              · refine dO 23 76 16 69 rfl rfl fun _ a w G1 hG HT H fin=>?_;refine aV dW (cs:=[_,_,_,_,_]) H (wg H rfl rfl (aH c3)) rfl rfl (H.hp.cB 0 rfl rfl) rfl ?_;clear H;intro a H;exact dZ
              · refine zy 22 75 24 77 16 69 rfl rfl fun _ a w G1 hG HT H fin=>?_;refine s_call JJ H (wg H rfl rfl (aH c3)) rfl (JL _ _ H.ro pk.1 l[k].head _ _ _ _ _ _ (by obtain ⟨_,_,_,_,_,_,_,e,_,_,_,_,hh,_⟩:=Cz c2;rw [e];exact hh.mono hG) (Kh.mono fun b o h=>hG b o (H6 b o (E5 b o (tu b o h))))) rfl ?_;clear H;rintro v78 G78 a w rfl V6 H;exact fin H V6 (rfl)
              clear H;intro a w G pX H hv;have H:=H.aN (hv 27 52 rfl rfl) rfl;clear hv;refine aB ⟨rfl,?_⟩;refine ⟨(_,_),by exact H.sub ⟨rfl,rfl,rfl,rfl,rfl,rfl,rfl,ay⟩,?_⟩;(try dsimp only);refine ⟨fun h=>by first|exact absurd h (by decide)|exact ⟨c1,c2,c3,pI h⟩,fun h=>?_,pX⟩
              exact L9
            skip;refine dI hmx [[],[0],[0,1],[0,1,2],ra 0 4,ra 0 5,ra 0 6,ra 0 7,ra 0 8,ra 0 8,(ra 0 8++[9]),ra 0 11,ra 0 12,ra 0 13,ra 0 14,ra 0 15,ra 0 16,ra 0 17,ra 0 17,(ra 0 17++[18]),ra 0 20,ra 0 21,ra 0 22,ra 0 17,(ra 0 17++[23]),ra 0 25,ra 0 26,ra 0 27] [] (by kernel_rfl) [_,vi l[k].kind,_,_,_,_,_,_,.slice (some ⟨bo,0,none⟩) out.length vc,_,vi ((out.length - 1:Nat):Int),_,_,vi pk.2,_,_,_,.slice (some ⟨bo,0,none⟩) out.length vc,_,vi ((out.length - 1:Nat):Int),_,_,sj pk.1 pp pd pl,_,sj l[k].head (.slice a1 a2 a3) (.slice a4 a5 a6) (.slice a7 a8 a9),.bool (decide (pk.1=l[k].head)),_,_] H (aC (Z0 rfl (Rf lS rfl)) (Z1 0 53 rfl (Ro aG 0 rfl)) (Z1 1 54 rfl (Rc rfl)) (Z1 2 55 rfl (Rm rfl)) (aC (Z1 3 56 rfl (YM (aH c1) rfl)) (Z2 4 57 3 56 rfl (YC (aH c1) rfl)) (Z2 3 56 5 58 rfl (Pt (aH c1) rfl)) (Z1 6 59 rfl (Rm rfl)) (aC ?_ (Z1 7 60 rfl (YM (aH c2) rfl)) ?_ (Z3 8 61 10 63 7 60 rfl (YI jo gN (aH c2) rfl rfl)) (aC (Z2 11 64 7 60 rfl (YF lS (aH c2) rfl)) ?_ (Z2 13 66 7 60 rfl (YC (aH c2) rfl)) (Z2 7 60 14 67 rfl (Pt (aH c2) rfl)) (aC (Z1 15 68 rfl (Rm rfl)) ?_ (Z1 16 69 rfl (YM (aH c3) rfl)) ?_ (aC (Z3 17 70 19 72 16 69 rfl (YI jo gN (aH c3) rfl rfl)) (Z2 20 73 16 69 rfl (YF wK (aH c3) rfl)) ?_ (Z1 16 69 rfl (YF wK (aH c3) rfl)) (aC ?_ ?_ (Z2 16 69 25 78 rfl (Pt (aH c3) rfl)) (Z1 26 79 rfl (Ra rfl)) dH))))))) ?_
            · refine eY 7 60 rfl rfl fun _ a w G1 hG HT H fin=>?_;refine kH H (YM (aH c2) rfl ?_);clear H;intro a H;exact LZ
            · refine dO 9 62 7 60 rfl rfl fun _ a w G1 hG HT H fin=>?_;refine nL _ H (wg H rfl rfl (aH c2)) rfl rfl rfl (by omega) (by omega) rfl ?_;clear H;intro a H;exact qF
            · refine dO 12 65 7 60 rfl rfl fun _ a w G1 hG HT H fin=>?_;obtain ⟨_,_,_,_,_,_,rfl,_,_,_,_,_,_,_,_,hx⟩:=Cz c2;refine rO aG H (wg H rfl rfl (aH c2)) rfl (hrw.at H.hp (fun x hx=>gV _ hx) (by rw [iA];exact hx 0 _ rfl)) rfl ?_;clear H;intro a H;exact dZ
            · refine eY 16 69 rfl rfl fun _ a w G1 hG HT H fin=>?_;refine kH H (YM (aH c3) rfl ?_);clear H;intro a H;exact LZ
            · refine dO 18 71 16 69 rfl rfl fun _ a w G1 hG HT H fin=>?_;refine nL _ H (wg H rfl rfl (aH c3)) rfl rfl rfl (by omega) (by omega) rfl ?_;clear H;intro a H;exact qF
            · refine dO 21 74 16 69 rfl rfl fun _ a w G1 hG HT H fin=>?_;obtain ⟨_,_,_,_,_,_,rfl,_,_,_,_,_,_,_,_,hx⟩:=Cz c2
              refine aV dW (cs:=[pp,vi pk.1.marks.ins,vi pk.1.marks.move,pd,pl]) H (wg H rfl rfl (aH c3)) rfl rfl (fun j u hj=>hrw.at H.hp (fun x hx=>gV _ hx) (by
                  rw [iA,Nat.add_assoc];refine hx (4+j) u ?_
                  match j,hj with
                  | 0,hj=>exact hj
                  | 1,hj=>exact hj
                  | 2,hj=>exact hj
                  | 3,hj=>exact hj
                  | 4,hj=>exact hj)) rfl ?_;clear H;intro a H
              exact dZ
            · refine dO 23 76 16 69 rfl rfl fun _ a w G1 hG HT H fin=>?_;refine aV dW (cs:=[_,_,_,_,_]) H (wg H rfl rfl (aH c3)) rfl rfl (H.hp.cB 0 rfl rfl) rfl ?_;clear H;intro a H;exact dZ
            · refine zy 22 75 24 77 16 69 rfl rfl fun _ a w G1 hG HT H fin=>?_;refine s_call JJ H (wg H rfl rfl (aH c3)) rfl (JL _ _ H.ro pk.1 l[k].head _ _ _ _ _ _ (by obtain ⟨_,_,_,_,_,_,_,e,_,_,_,_,hh,_⟩:=Cz c2;rw [e];exact hh.mono hG) (Kh.mono fun b o h=>hG b o (H6 b o (E5 b o (tu b o h))))) rfl ?_;clear H;rintro v78 G78 a w rfl V6 H;exact fin H V6 (rfl)
            clear H;intro a w G pX H hv;have H:=H.aN (hv 27 52 rfl rfl) rfl;clear hv;refine aB ⟨rfl,?_⟩;refine ⟨(_,_),by exact H.sub ⟨rfl,rfl,rfl,rfl,rfl,rfl,rfl,ay⟩,?_⟩;(try dsimp only);refine ⟨fun h=>by first|exact absurd h (by decide)|exact ⟨c1,c2,c3,pI h⟩,fun h=>?_,pX⟩
            exact L9
          skip;refine dI hmx [[],[0],[0,1],[0,1,2],ra 0 4,ra 0 5,ra 0 6,ra 0 7,ra 0 8,ra 0 8,(ra 0 8++[9]),ra 0 11,ra 0 12,ra 0 13,ra 0 14,ra 0 15,ra 0 16,ra 0 17,ra 0 17,(ra 0 17++[18]),ra 0 20,ra 0 21,ra 0 22,ra 0 17,(ra 0 17++[23]),ra 0 25,ra 0 26,ra 0 27] [] (by kernel_rfl) [_,vi l[k].kind,_,_,_,_,_,_,.slice (some ⟨bo,0,none⟩) out.length vc,_,vi ((out.length - 1:Nat):Int),_,_,vi pk.2,_,_,_,undef,undef,undef,undef,undef,undef,undef,undef,undef,_,_] H (aC (Z0 rfl (Rf lS rfl)) (Z1 0 53 rfl (Ro aG 0 rfl)) (Z1 1 54 rfl (Rc rfl)) (Z1 2 55 rfl (Rm rfl)) (aC (Z1 3 56 rfl (YM (aH c1) rfl)) (Z2 4 57 3 56 rfl (YC (aH c1) rfl)) (Z2 3 56 5 58 rfl (Pt (aH c1) rfl)) (Z1 6 59 rfl (Rm rfl)) (aC ?_ (Z1 7 60 rfl (YM (aH c2) rfl)) ?_ (Z3 8 61 10 63 7 60 rfl (YI jo gN (aH c2) rfl rfl)) (aC (Z2 11 64 7 60 rfl (YF lS (aH c2) rfl)) ?_ (Z2 13 66 7 60 rfl (YC (aH c2) rfl)) (Z2 7 60 14 67 rfl (Pt (aH c2) rfl)) (aC (Z1 15 68 rfl (Rm rfl)) (aZ 16 (aY c3) rfl rfl) (aZ 16 (aY c3) rfl rfl) (aZ 16 (aY c3) rfl rfl) (aC (aZ 16 (aY c3) rfl rfl) (aZ 16 (aY c3) rfl rfl) (aZ 16 (aY c3) rfl rfl) (aZ 16 (aY c3) rfl rfl) (aC (aZ 16 (aY c3) rfl rfl) (aZ 16 (aY c3) rfl rfl) (Z2 16 69 25 78 rfl (Pf (aY c3) rfl)) (Z1 26 79 rfl (Ra rfl)) dH))))))) ?_
          · refine eY 7 60 rfl rfl fun _ a w G1 hG HT H fin=>?_;refine kH H (YM (aH c2) rfl ?_);clear H;intro a H;exact LZ
          · refine dO 9 62 7 60 rfl rfl fun _ a w G1 hG HT H fin=>?_;refine nL _ H (wg H rfl rfl (aH c2)) rfl rfl rfl (by omega) (by omega) rfl ?_;clear H;intro a H;exact qF
          · refine dO 12 65 7 60 rfl rfl fun _ a w G1 hG HT H fin=>?_;obtain ⟨_,_,_,_,_,_,rfl,_,_,_,_,_,_,_,_,hx⟩:=Cz c2;refine rO aG H (wg H rfl rfl (aH c2)) rfl (hrw.at H.hp (fun x hx=>gV _ hx) (by rw [iA];exact hx 0 _ rfl)) rfl ?_;clear H;intro a H;exact dZ
          clear H;intro a w G pX H hv;have H:=H.aN (hv 27 52 rfl rfl) rfl;clear hv;refine aB ⟨rfl,?_⟩;refine ⟨(_,_),by exact H.sub ⟨rfl,rfl,rfl,rfl,rfl,rfl,rfl,ay⟩,?_⟩;(try dsimp only);refine ⟨fun h=>by first|exact absurd h (by decide)|exact ⟨c1,c2,c3,pI h⟩,fun h=>?_,pX⟩
          exact L9
        skip;refine dI hmx [[],[0],[0,1],[0,1,2],ra 0 4,ra 0 5,ra 0 6,ra 0 7,ra 0 8,ra 0 8,(ra 0 8++[9]),ra 0 11,ra 0 12,ra 0 13,ra 0 14,ra 0 15,ra 0 16,ra 0 17,ra 0 17,(ra 0 17++[18]),ra 0 20,ra 0 21,ra 0 22,ra 0 17,(ra 0 17++[23]),ra 0 25,ra 0 26,ra 0 27] [] (by kernel_rfl) [_,vi l[k].kind,_,_,_,_,_,_,undef,undef,undef,undef,undef,undef,undef,_,_,undef,undef,undef,undef,undef,undef,undef,undef,undef,_,_] H (aC (Z0 rfl (Rf lS rfl)) (Z1 0 53 rfl (Ro aG 0 rfl)) (Z1 1 54 rfl (Rc rfl)) (Z1 2 55 rfl (Rm rfl)) (aC (Z1 3 56 rfl (YM (aH c1) rfl)) (Z2 4 57 3 56 rfl (YC (aH c1) rfl)) (Z2 3 56 5 58 rfl (Pt (aH c1) rfl)) (Z1 6 59 rfl (Rm rfl)) (aC (aZ 7 (aY c2) rfl rfl) (aZ 7 (aY c2) rfl rfl) (aZ 7 (aY c2) rfl rfl) (aZ 7 (aY c2) rfl rfl) (aC (aZ 7 (aY c2) rfl rfl) (aZ 7 (aY c2) rfl rfl) (aZ 7 (aY c2) rfl rfl) (Z2 7 60 14 67 rfl (Pf (aY c2) rfl)) (aC (Z1 15 68 rfl (Rm rfl)) (aZ 16 rfl rfl rfl) (aZ 16 rfl rfl rfl) (aZ 16 rfl rfl rfl) (aC (aZ 16 rfl rfl rfl) (aZ 16 rfl rfl rfl) (aZ 16 rfl rfl rfl) (aZ 16 rfl rfl rfl) (aC (aZ 16 rfl rfl rfl) (aZ 16 rfl rfl rfl) (Z2 16 69 25 78 rfl (Pf rfl rfl)) (Z1 26 79 rfl (Ra rfl)) dH))))))) ?_
        clear H;intro a w G pX H hv;have H:=H.aN (hv 27 52 rfl rfl) rfl;clear hv;refine aB ⟨rfl,?_⟩;refine ⟨(_,_),by exact H.sub ⟨rfl,rfl,rfl,rfl,rfl,rfl,rfl,ay⟩,?_⟩;(try dsimp only);refine ⟨fun h=>by first|exact absurd h (by decide)|exact ⟨c1,c2,c3,pI h⟩,fun h=>?_,pX⟩
        exact L9
      skip;refine dI hmx [[],[0],[0,1],[0,1,2],ra 0 4,ra 0 5,ra 0 6,ra 0 7,ra 0 8,ra 0 8,(ra 0 8++[9]),ra 0 11,ra 0 12,ra 0 13,ra 0 14,ra 0 15,ra 0 16,ra 0 17,ra 0 17,(ra 0 17++[18]),ra 0 20,ra 0 21,ra 0 22,ra 0 17,(ra 0 17++[23]),ra 0 25,ra 0 26,ra 0 27] [] (by kernel_rfl) [_,vi l[k].kind,_,_,undef,undef,_,_,undef,undef,undef,undef,undef,undef,undef,_,_,undef,undef,undef,undef,undef,undef,undef,undef,undef,_,_] H (aC (Z0 rfl (Rf lS rfl)) (Z1 0 53 rfl (Ro aG 0 rfl)) (Z1 1 54 rfl (Rc rfl)) (Z1 2 55 rfl (Rm rfl)) (aC (aZ 3 (aY c1) rfl rfl) (aZ 3 (aY c1) rfl rfl) (Z2 3 56 5 58 rfl (Pf (aY c1) rfl)) (Z1 6 59 rfl (Rm rfl)) (aC (aZ 7 rfl rfl rfl) (aZ 7 rfl rfl rfl) (aZ 7 rfl rfl rfl) (aZ 7 rfl rfl rfl) (aC (aZ 7 rfl rfl rfl) (aZ 7 rfl rfl rfl) (aZ 7 rfl rfl rfl) (Z2 7 60 14 67 rfl (Pf rfl rfl)) (aC (Z1 15 68 rfl (Rm rfl)) (aZ 16 rfl rfl rfl) (aZ 16 rfl rfl rfl) (aZ 16 rfl rfl rfl) (aC (aZ 16 rfl rfl rfl) (aZ 16 rfl rfl rfl) (aZ 16 rfl rfl rfl) (aZ 16 rfl rfl rfl) (aC (aZ 16 rfl rfl rfl) (aZ 16 rfl rfl rfl) (Z2 16 69 25 78 rfl (Pf rfl rfl)) (Z1 26 79 rfl (Ra rfl)) dH))))))) ?_
      clear H;intro a w G pX H hv;have H:=H.aN (hv 27 52 rfl rfl) rfl;clear hv;refine aB ⟨rfl,?_⟩;refine ⟨(_,_),by exact H.sub ⟨rfl,rfl,rfl,rfl,rfl,rfl,rfl,ay⟩,?_⟩;(try dsimp only);refine ⟨fun h=>by first|exact absurd h (by decide)|exact ⟨c1,c2,c3,pI h⟩,fun h=>?_,pX⟩
      exact L9
    clear H;rintro ⟨jb,g9⟩ a w hI H;dsimp only at hI H;obtain ⟨hjy,hjn,Cv⟩:=hI;have aqg:=Qt.mono Cv;have Nj:=aew.mono Cv;have adN:∀ b o,G b=some o->g9 b=some o:=fun b o h=>Cv b o (adM b o h);dsimp only [lca,bM] at H;refine jr H rfl ?_ ?_
    · intro qw
      try have p52:=dT qw
      obtain ⟨c1,c2,c3,c4⟩:=hjy (by assumption);obtain ⟨oo,z,x0,zf,zr,QK,rfl,rfl,rfl,hxs,hxl,hc0,hhz,hfz,hrz,hxj⟩:=Cz c2
      have hzt:z.text.size<=pq out:=by
        rw [QK,IW];simp only [pq];omega
      obtain ⟨cur,-,rfl,hcur,hset⟩:=hrw.set1;refine dI hmx [[],[],[1],[0,1,2],ra 0 4,ra 0 5,[],[6],ra 0 8,ra 0 9,ra 0 10,ra 0 11] [9,10,11] (by kernel_rfl) [_,_,vi ((out.length - 1:Nat):Int),_,_,.string z.text,_,.string l[k].text,.string (z.text++l[k].text)] H (aC (Z0 rfl (Rm rfl)) (Z0 rfl (Rm rfl)) ?_ (Z2 0 80 2 82 rfl (Ri jo gN rfl rfl)) (aC (Z1 3 83 rfl (Rf vP rfl)) ?_ (Z0 rfl (Rf vP rfl)) (Z1 6 86 rfl (Ro iR 0 rfl)) (aC ?_ (bU rfl) (bU rfl) (bU rfl) dH))) ?_
      · refine eY 1 81 rfl rfl fun _ a w G1 hG HT H fin=>?_;refine kH H (Rs rfl ?_);clear H;intro a H;exact qF
      · refine eY 4 84 rfl rfl fun _ a w G1 hG HT H fin=>?_;refine rO iR H wn rfl (hrw.at H.hp (fun x hx=>gV _ hx) (by rw [iA];exact hxj 3 _ rfl)) rfl ?_;clear H;intro a H;exact dZ
      · refine dO 5 85 7 87 rfl rfl fun _ a w G1 hG HT H fin=>?_;refine avI H wn rfl rfl (by omega) rfl ?_;clear H;intro a H;exact dZ
      clear H;intro a w G oM H hv;have H:=H.aN (hv 0 80 rfl rfl) rfl;have H:=H.aN (hv 2 82 rfl rfl) rfl;have H:=H.aN (hv 8 88 rfl rfl) rfl;clear hv;refine kH H (Ri jo gN rfl rfl (Rf vP rfl ?_));clear H;intro a H;refine KS iR 1 (c:=cur) (vs:=[.string (z.text++l[k].text)]) (cur.set ((out.length - 1)*11+3) (.string (z.text++l[k].text))) H wn rfl rfl rfl rfl rfl rfl (by simp;omega) (by rw [iA];rfl) ?_;clear H;intro w H;dsimp only [List.set] at H;have arz:=hset ((out.length - 1)*11+3) (.string (z.text++l[k].text))
      have hnj:uY l (k+1)=oo++[mR z y]:=by rw [hos,QK];exact BQ hnd ⟨by rw [hyk];exact c1,c3,by rw [hyh];exact c4⟩
      refine aB ⟨rfl,?_⟩;refine K7 _ _ ?_;clear K7;refine kP H (SC (Rd rfl (Rm rfl ?_)));clear H;intro a H;refine aB ?_;refine dJ ((k+1,_,xs.set ((out.length - 1)*11+3) (.string (z.text++l[k].text)),_,_)) (by exact (H.fG (Pl:=[_]) (eH:=[]) [] (by decide) rfl).sub ⟨rfl,rfl,rfl,rfl,ay⟩) ?_
      (try dsimp only);exact ⟨by omega,by rw [hnj,show (oo++[mR z y]).length=out.length by rw [QK];simp];exact arz,by rw [hnj,hxs,QK];exact joined (hc0.mono fun b o h=>oM b o (Cv b o h)) hxl (hhz.mono fun b o h=>oM b o (Cv b o h)) (hfz.mono fun b o h=>oM b o (Cv b o h)) (hrz.mono fun b o h=>oM b o (Cv b o h)) (by rw [Nt]),fun b o h=>oM b o (adN b o h)⟩
    intro qw
    try have p52:=dF qw
    have hnx:=hjn (by assumption);refine kP H (SC (Rm rfl ?_));clear H;intro a H;refine aV gN (cs:=[_,_,_,_,_,_,_,_,_,_,_]) H wn rfl rfl (H.hp.cB 0 rfl rfl) rfl ?_;clear H;intro a H;refine iV jo gN [_,_,_,_,_,_,_,_,_,_,_] [_,_,_,_,_,_,_,_,_,_,_] H wn rfl rfl rfl rfl rfl (by intro i q h;match i,h with|0,h=>exact h|n+1,h=>simp at h) rfl rfl ?_;clear H;intro b30 a w apS H;refine oZ (Li:=[_,_]) (Lo:=Lo) (news:=UD) jo gN rfl rfl H wn rfl rfl hrw (by rw [Qv];rfl) (by rw [Qv];exact H.hp.cB 0 rfl rfl) aew.one (by omega) (by omega) rfl ?_;clear H;intro v31 aip a w QN H;refine kH H (bG K7 rfl (SC (Rd rfl (Rm rfl ?_))));clear H K7;intro a H;refine aB ?_;refine dJ ((k+1,v31,xs++UD,aip,_)) (by exact (H.fG (Pl:=[_,_]) (eH:=[]) [] (by decide) rfl).sub ⟨rfl,rfl,rfl,rfl,ay⟩) ?_
    (try dsimp only);exact ⟨by omega,by rw [hnx,jM];exact QN,by rw [hnx,lW];exact (aqg.snoc Nj (by rw [Qv];rfl)),adN⟩
  intro h10 a H
  try have jd:=dF h10
  refine eu ?_;refine K3 _ _ ?_;clear K3;refine bR (fun _ cK=>?_)
  obtain rfl:k=l.length:=by omega
  obtain ⟨G',hm,hrep,H⟩:=H.qG (Li:=[]) hrw (rows:=out.map au.dat) (by simp) fQ;exact kP H (SC (Rm rfl (bG cK rfl (LR results58 rfl fun H=>H.rt (by rw [kK,<- hout];exact hrep)))))
theorem afG:∀ n:Nat,n<=1073741825->F9 n
 | 0,_=>fun _ _ _ _ _ _ _ h=>absurd h (by omega)
 | n+1,hn=>atA (afG n (by omega)) (by omega)
theorem atC (G:GH) (w0:World) (hG:Hold G w0) (l:List au) (v:ah) (hv:ak G (.sl 11 (l.map au.dat)) v) (hne:wZ l) (hz:dx l<=1073741824) :
  Calls prog 58 #[v] w0 (bE w0 G fun u G'=>ak G' (.sl 11 ((kK l).map au.dat)) u):=afG 1073741825 (by omega) G w0 hG l v hv hne (by omega)
end Go.Proofs.YtdiflmikikiedaaGreat
