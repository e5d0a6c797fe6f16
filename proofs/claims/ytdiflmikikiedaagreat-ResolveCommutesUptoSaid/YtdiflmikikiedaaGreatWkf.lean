/-
  What the claim stands on, part 6: Hg24 Ne13 Npre Rv24 Dx24 Cd24 Wh24 Dn Mw24 Kt Par Pas L14 L14b L14c It Div Nrm L14d L14e Sl Sm16 Kn24 Ls24 Eqi En Stq Dms Deq Rl24 Rk24 Vw24 Rj24 Cm24 Cn24 Cp24 Pj24.
-/
import Derived.Test.YtdiflmikikiedaaGreatWke
namespace Go.Proofs.YtdiflmikikiedaaGreat
set_option linter.all false
open Go.Proofs.Tryz
open Go.RowKit
theorem aiM {α:Type} {l:List α} {R:α->α->Prop} (htr:∀ a b c,R a b->R b c->R a c) (h:∀ k (hk:k+1 < l.length),R l[k] l[k+1]):l.Pairwise R:=by
 rw [List.pairwise_iff_getElem];intro i j hi hj hij
 induction j with
 | zero=>omega
 | succ j ih =>
  by_cases e:i=j
  ·subst e;exact h i hj
  exact htr _ _ _ (ih O O) (h j hj)
def aaC (C:bE) (e k v:Int):Prop:=wO e k=true∧uQ k v=0∧yB C.st C.nM k v=0
def xD (C:bE) (e:Int) (l:List aO):Prop:=(∀ p∈l,aaC C e p.key p.value)∧l.Pairwise fun x y=>x.key < y.key
def Al (C:bE) (e k:Int) (s:Int × Bool):Prop:=wO e k=true∧(s.2=true->uQ k s.1=0∧yB C.st C.nM k s.1=0)∧(s.2=false->s.1=0)
def Gj (C:bE) (e:Int) (y:bZ):Prop:=y.rev∈C.kM∧Al C e y.key (y.before,y.had)
structure Jj (C:bE) (e:Int) (h:dN):Prop where
 el:1<=e∧e<=10
 ps:xD C e h.props
 mrk:(h.marks.ins≠0->h.marks.ins∈C.kM)∧(0<=h.marks.move∧h.marks.move<=1073741824)∧(h.marks.move≠0->h.marks.ins≠0)∧h.marks.bK.length<=16
 dl:(∀ x∈h.marks.bK,x.rev∈C.kM∧0<=x.move∧x.move<=1073741824)∧h.marks.bK.Pairwise fun x y=>x.rev < y.rev
 ln:h.marks.layers.length<=64
 ly:(∀ y∈h.marks.layers,Gj C e y)∧h.marks.layers.Pairwise fun x y=>x.key<=y.key
theorem VZ (e:Int):∀ (l:List aO) (q:Option Int),zK e q l=0↔(∀ p∈l,wO e p.key=true∧uQ p.key p.value=0)∧(l.Pairwise fun x y=>x.key < y.key)∧∀ j,q=some j->∀ p∈l,j < p.key
 | [],q=>by simp [zK]
 | p :: r,q=>by
  rw [zK];have ih:=VZ e r (some p.key)
  constructor
  ·intro h
   split at h
   ·cases h
   rename_i h1
   split at h
   ·cases h
   rename_i h2
   split at h
   ·cases h
   rename_i h3
   split at h
   ·rename_i h4
    obtain ⟨a,b,c⟩:=ih.1 h
    have hq:∀ j,q=some j->j < p.key:=fun j e=>by
     subst e;rw [FD,oM] at h3;have:j≠p.key:=fun e=>h2 (by rw [e])
     omega
    refine ⟨fun x hx=>?_,?_,fun j e x hx=>?_⟩
    ·rcases gK.1 hx with rfl|hx
     ·exact ⟨by simpa using h1,h4⟩
     exact a x hx
    ·exact ql.2 ⟨fun y hy=>c _ M y hy,b⟩
    rcases gK.1 hx with rfl|hx
    ·exact hq j e
    exact Int.lt_trans (hq j e) (c _ M x hx)
   rename_i h4;exact absurd h h4
  rintro ⟨a,b,c⟩;obtain ⟨b1,b2⟩:=ql.1 b;obtain ⟨a1,a2⟩:=a p dX;rw [av (by simp [a1]),av (fun e=>by have:=c _ e p dX;omega),av,aD a2]
  ·exact ih.2 ⟨fun x hx=>a x (gW _ hx),b2,fun j e x hx=>by cases e;exact b1 x hx⟩
  intro hl
  cases q with
  | none=>cases hl
  | some j =>
   rw [FD,oM] at hl;have:=c j M p dX;omega
theorem HZ (C:bE) (e:Int) (h:dN):iG C e h=0↔Jj C e h:=by
 constructor
 ·intro hE;have z:=lN hE;have z1:=z (qU e h.props) (by simp);have z2:=z (zl C h.props) (by simp);have z3:=z (jX C h.marks) (by simp);have z4:=z (iX (uo C h.marks.bK) h.marks.bK.length) (by simp);have z5:=z (dL (decide (64 < (h.marks.layers.length:Int))) 9) (by simp);have z6:=z (iX (xZ C e h.marks.layers) h.marks.layers.length) (by simp)
  unfold qU at z1
  have hel:¬ (e < 1∨10 < e):=fun h=>by rw [aD h] at z1;cases z1
  rw [av hel,VZ] at z1
  unfold jX at z3
  have hD:∀ k (hk:k < h.marks.bK.length),uT C k h.marks.bK[k] ((h.marks.bK[k - 1]?.map gG.rev).getD 0)=0:=fun k hk=>by
   have h5:=BX z4 k hk
   unfold uo at h5
   rwa [eB hk] at h5
  have hL:∀ k (hk:k < h.marks.layers.length),Bn C e k h.marks.layers[k] ((h.marks.layers[k - 1]?.map bZ.key).getD 0)=0:=fun k hk=>by
   have h5:=BX z6 k hk
   unfold xZ at h5
   rwa [eB hk] at h5
  refine ⟨O,⟨fun p hp=>⟨(z1.1 p hp).1,(z1.1 p hp).2,?_⟩,z1.2.1⟩,?_,⟨fun x hx=>?_,aiM (fun a b c=>Int.lt_trans) fun k hk=>?_⟩,?_,⟨fun y hy=>?_,aiM (fun a b c=>Int.le_trans) fun k hk=>?_⟩⟩
  ·exact lN z2 _ (List.mem_map.2 ⟨p,hp,M⟩)
  ·split at z3
   ·cases z3
   rename_i a1
   split at z3
   ·cases z3
   rename_i a2
   split at z3
   ·cases z3
   rename_i a3
   exact ⟨fun h0=>Decidable.byContradiction fun hn=>a1 ⟨h0,hn⟩,O,O,O⟩
  ·obtain ⟨k,hk,rfl⟩:=List.getElem_of_mem hx;have h6:=hD k hk
   unfold uT at h6
   split at h6
   ·cases h6
   rename_i a1
   split at h6
   ·cases h6
   split at h6
   ·cases h6
   rename_i a3
   exact ⟨oN.1 a1,O⟩
  ·have h6:=hD (k+1) hk;rw [Nat.add_sub_cancel,eB (by omega:k < h.marks.bK.length)] at h6
   unfold uT at h6
   split at h6
   ·cases h6
   split at h6
   ·cases h6
   rename_i a2
   simp only [wH,Option.getD_some] at a2
   omega
  ·unfold dL at z5
   split at z5
   ·cases z5
   rename_i a;simp only [oM] at a;omega
  ·obtain ⟨k,hk,rfl⟩:=List.getElem_of_mem hy;have h6:=hL k hk
   unfold Bn at h6
   split at h6
   ·cases h6
   rename_i a1
   split at h6
   ·cases h6
   rename_i a2
   split at h6
   ·cases h6
   refine ⟨oN.1 a1,by simpa using a2,fun ht=>?_,fun hf=>?_⟩
   ·dsimp only at ht;rw [av (by rw [ht];decide)] at h6;exact ⟨lN h6 _ dX,lN h6 _ (by simp)⟩
   dsimp only at hf;rw [aD hf,tV Z] at h6
   simpa using h6
  have h6:=hL (k+1) hk;rw [Nat.add_sub_cancel,eB (by omega:k < h.marks.layers.length)] at h6
  unfold Bn at h6
  split at h6
  ·cases h6
  split at h6
  ·cases h6
  split at h6
  ·cases h6
  rename_i a2
  simp only [wH,Option.getD_some] at a2
  omega
 rintro ⟨hel,⟨hp,hps⟩,⟨m1,m2,m3,m4⟩,⟨d1,d2⟩,hln,⟨l1,l2⟩⟩;refine EX fun x hx=>?_
 simp only [gK,List.not_mem_nil,or_false] at hx
 rcases hx with rfl|rfl|rfl|rfl|rfl|rfl
 ·unfold qU
  rw [dK,VZ];exact ⟨fun p h=>⟨(hp p h).1,(hp p h).2.1⟩,hps,fun j e=>by cases e⟩
 ·refine EX fun x hx=>?_;obtain ⟨p,h1,rfl⟩:=List.mem_map.1 hx;exact (hp p h1).2.2
 ·unfold jX
  rw [av fun h=>h.2 (m1 h.1),av fun h=>h.elim (fun h=>h m2) fun h=>m3 h.1 h.2,dK]
 ·refine Jw fun k hk=>?_
  unfold uo
  rw [eB hk];dsimp only [uT];have:=d1 _ (lq hk);rw [av fun h=>h this.1,av,av fun h=>h this.2];rintro ⟨h0,h1⟩;rw [eB (by omega:k - 1 < h.marks.bK.length)] at h1;have:=List.pairwise_iff_getElem.1 d2 (k - 1) k O hk O
  simp only [wH,Option.getD_some] at h1
  omega
 ·rw [tV Z,vO];omega
 refine Jw fun k hk=>?_
 unfold xZ
 rw [eB hk];dsimp only [Bn];obtain ⟨a1,a2,a3,a4⟩:=l1 _ (lq hk);rw [av fun h=>h a1,av (by simp [a2]),av]
 ·split
  ·rename_i hf
   rw [tV Z];have:=a4 hf
   simpa using this
  rename_i hf
  obtain ⟨b1,b2⟩:=a3 (by simpa using hf);exact Q5.2 ⟨b1,b2⟩
 rintro ⟨h0,h1⟩;rw [eB (by omega:k - 1 < h.marks.layers.length)] at h1;have:=List.pairwise_iff_getElem.1 l2 (k - 1) k O hk O
 simp only [wH,Option.getD_some] at h1
 omega
theorem Kr {l:List aO} {k:Int} (h:oU (l.map aO.key) k=true):∃ hi:gQ (l.map aO.key) k < l.length,l[gQ (l.map aO.key) k].key=k:=by
 have h1:=Rq h;rw [bS] at h1;have h2:=pQ h;rw [tZ,eB h1] at h2;exact ⟨h1,by simpa using h2⟩
theorem asq {C:bE} {e:Int} {l:List aO} (hp:xD C e l) {k:Int} (hf:wO e k=true):Al C e k (kT l k):=by
 unfold kT
 split
 ·rename_i h
  obtain ⟨h1,h2⟩:=Kr h;have:=(hp.1 _ (lq h1)).2;rw [h2] at this;rw [List.getD_eq_getElem?_getD,eB h1];exact ⟨hf,fun _=>this,fun h=>by cases h⟩
 exact ⟨hf,fun h=>(by cases h),fun _=>rfl⟩
theorem ajM {C:bE} {e k:Int} (hf:wO e k=true):Al C e k (0,false):=⟨hf,fun h=>(by cases h),fun _=>rfl⟩
theorem amb {l:List aO} (hs:l.Pairwise fun x y=>x.key < y.key) (k:Int):(∀ p∈l.take (gQ (l.map aO.key) k),p.key < k)∧∀ p∈l.drop (gQ (l.map aO.key) k),k<=p.key:=by
 have hle:=GR (l.map aO.key) k;rw [bS] at hle;have hp:(l.map aO.key).Pairwise (·<=·):=List.pairwise_map.2 (hs.imp fun h=>Int.le_of_lt h);obtain ⟨r1,r2⟩:=ads hp k;refine ⟨fun p h=>?_,fun p h=>?_⟩
 ·obtain ⟨i,hi,rfl⟩:=List.getElem_of_mem h;rw [List.length_take] at hi;have:=r1 i (by rw [bS];omega) O;rw [List.getElem_map] at this;rw [List.getElem_take];exact this
 obtain ⟨i,hi,rfl⟩:=List.getElem_of_mem h;rw [List.length_drop] at hi;have h1:=r2 (by rw [bS];omega);rw [List.getElem_map] at h1;rw [List.getElem_drop]
 by_cases e:i=0
 ·subst e;exact h1
 have:=List.pairwise_iff_getElem.1 hs (gQ (l.map aO.key) k) (gQ (l.map aO.key) k+i) O O O
 omega
theorem anz {C:bE} {e:Int} {l:List aO} (hp:xD C e l) (k:Int):xD C e (Aq l k):=by
 unfold Aq
 split
 ·have hs:(l.take (gQ (l.map aO.key) k)++l.drop (gQ (l.map aO.key) k+1)).Sublist l:=by
   conv=>rhs;rw [<- List.take_append_drop (gQ (l.map aO.key) k) l]
   exact List.Sublist.append (lX _) (by rw [<- List.drop_drop];exact List.drop_sublist _ _)
  exact ⟨fun p h=>hp.1 p (hs.subset h),hp.2.sublist hs⟩
 exact hp
theorem azM {C:bE} {e:Int} {l:List aO} (hp:xD C e l) {k v:Int} (hk:aaC C e k v):xD C e (Bz l k v):=by
 obtain ⟨b1,b2⟩:=amb hp.2 k
 unfold Bz
 split
 ·rename_i h
  obtain ⟨h1,h2⟩:=Kr h;rw [List.getD_eq_getElem?_getD,eB h1,Option.getD_some,h2];refine ⟨fun p hpm=>?_,?_⟩
  ·rcases List.mem_or_eq_of_mem_set hpm with h|rfl
   ·exact hp.1 p h
   exact hk
  have e:(l.set (gQ (l.map aO.key) k) ⟨k,v⟩).map aO.key=l.map aO.key:=by
   rw [List.map_set];refine List.ext_getElem (by simp) fun i h3 h4=>?_;rw [List.getElem_set]
   split
   ·rename_i hi;subst hi;rw [List.getElem_map,h2]
   rfl
  have:=List.pairwise_map.2 hp.2;rw [<- e] at this;exact List.pairwise_map.1 this
 rename_i h
 have hne:∀ p∈l,p.key≠k:=fun p hpm he=>by
  rw [Kq (List.pairwise_map.2 (hp.2.imp fun h=>Int.le_of_lt h)),oM] at h;exact h (List.mem_map.2 ⟨p,hpm,he⟩)
 refine ⟨fun p hpm=>?_,?_⟩
 ·rcases jQ.1 hpm with h|h
  ·exact hp.1 p (List.mem_of_mem_take h)
  rcases gK.1 h with rfl|h
  ·exact hk
  exact hp.1 p (List.mem_of_mem_drop h)
 rw [List.pairwise_append];refine ⟨hp.2.sublist (List.take_sublist _ _),ql.2 ⟨fun p h=>?_,hp.2.sublist (List.drop_sublist _ _)⟩,fun p h q hq=>?_⟩
 ·have h1:=b2 p h;have h2:=hne p (List.mem_of_mem_drop h)
  show k < p.key
  omega
 have h1:=b1 p h
 rcases gK.1 hq with rfl|hq
 ·exact h1
 have h2:=b2 q hq
 show p.key < q.key
 omega
theorem akw {C:bE} {e:Int} {l:List aO} (hp:xD C e l) {k:Int} {s:Int × Bool} (hs:Al C e k s):xD C e (vI l k s):=by
 unfold vI
 split
 ·rename_i h
  exact azM hp ⟨hs.1,hs.2.1 h⟩
 exact anz hp k
theorem YT {C:bE} {e:Int} (rej:Int->Bool) {yD:List (Int × Bool)} {k:Int} (hf:wO e k=true) (hst:∀ s∈yD,Al C e k s):∀ (l:List bZ) (j:Nat) (now:Int × Bool),(∀ y∈l,y.key=k∧y.rev∈C.kM)->Al C e k now ->
  (∀ y∈(uH rej yD l j now).1,y.key=k∧Gj C e y∧∃ z∈l,z.rev=y.rev∧rej z.rev=false)∧Al C e k (uH rej yD l j now).2
 | [],_,_,_,hn=>by rw [uH];exact ⟨fun y h=>(by cases h),hn⟩
 | y :: r,j,now,hl,hn=>by
  obtain ⟨h1,h2⟩:=hl y dX;have hl2:=fun z hz=>hl z (gW _ hz);rw [uH]
  split
  ·obtain ⟨a,b⟩:=YT rej hf hst r (j+1) now hl2 hn;refine ⟨fun z hz=>?_,b⟩;obtain ⟨c1,c2,x,c3,c4⟩:=a z hz;exact ⟨c1,c2,x,gW _ c3,c4⟩
  rename_i hr
  have hg:Al C e k (yD.getD (j+1) (0,false)):=by
   rw [List.getD_eq_getElem?_getD]
   cases hx:yD[j+1]? with
   | none=>exact ajM hf
   | some s=>exact hst s (lV hx)
  obtain ⟨a,b⟩:=YT rej hf hst r (j+1) _ hl2 hg;refine ⟨fun z hz=>?_,b⟩
  rcases gK.1 hz with rfl|hz
  ·refine ⟨h1,⟨h2,?_⟩,y,dX,M,by simpa using hr⟩;dsimp only;rw [h1];exact hn
  obtain ⟨c1,c2,x,c3,c4⟩:=a z hz;exact ⟨c1,c2,x,gW _ c3,c4⟩
theorem Xa (acc:Int->Bool):∀ (l:List bZ) (k c:Nat),c<=k->c<=iZ acc l k c
 | [],k,c,_=>by rw [iZ];exact eG _
 | y :: r,k,c,h=>by
  rw [iZ]
  split
  ·have:=Xa acc r (k+1) (k+1) (eG _);omega
  exact Xa acc r (k+1) c O
theorem afJ (acc:Int->Bool):∀ (l:List bZ) (k c:Nat),c<=k->∀ y∈l.drop (iZ acc l k c - k),acc y.rev=false
 | [],_,_,_,y,h=>by rw [List.drop_nil] at h;cases h
 | x :: r,k,c,hc,y,h=>by
  rw [iZ] at h
  have hc2:(if acc x.rev=true then k+1 else c)<=k+1:=by split <;> omega
  have ih:=afJ acc r (k+1) (if acc x.rev=true then k+1 else c) hc2;have hge:=Xa acc r (k+1) (if acc x.rev=true then k+1 else c) hc2
  by_cases hk:iZ acc r (k+1) (if acc x.rev=true then k+1 else c)<=k
  ·rw [show iZ acc r (k+1) (if acc x.rev=true then k+1 else c) - k=0 by omega,wI] at h;rw [show iZ acc r (k+1) (if acc x.rev=true then k+1 else c) - (k+1)=0 by omega,wI] at ih
   rcases gK.1 h with rfl|h
   ·cases ha:acc y.rev
    ·rfl
    rw [aD ha] at hge hk;omega
   exact ih y h
  rw [show iZ acc r (k+1) (if acc x.rev=true then k+1 else c) - k=(iZ acc r (k+1) (if acc x.rev=true then k+1 else c) - (k+1))+1 by omega,xG] at h;exact ih y h
theorem afS {C:bE} {e:Int} (acc rej:Int->Bool) {props:List aO} (hp:xD C e props) {k:Int} {l:List bZ} (hne:l≠[]) (hl:∀ y∈l,y.key=k∧Gj C e y) :
  (∀ y∈(mJ acc rej props k l).1,y.key=k∧Gj C e y∧∃ z∈l,z.rev=y.rev∧rej z.rev=false∧acc z.rev=false)∧Al C e k (mJ acc rej props k l).2:=by
 have hf:wO e k=true:=by
  obtain ⟨y,r,rfl⟩:=List.exists_cons_of_ne_nil hne;obtain ⟨h1,-,h2,-⟩:=hl y dX;rw [<- h1];exact h2
 have hst:∀ s∈qd props k l,Al C e k s:=fun s hs=>by
  unfold qd at hs
  rcases jQ.1 hs with hs|hs
  ·obtain ⟨y,hy,rfl⟩:=List.mem_map.1 hs;obtain ⟨h1,-,h2⟩:=hl y hy;rw [<- h1];exact h2
  rw [oC.1 hs];exact asq hp hf
 unfold mJ
 have hn:Al C e k ((qd props k l).getD (iZ acc l 0 0) (0,false)):=by
  rw [List.getD_eq_getElem?_getD]
  cases hx:(qd props k l)[iZ acc l 0 0]? with
  | none=>exact ajM hf
  | some s=>exact hst s (lV hx)
 obtain ⟨a,b⟩:=YT rej hf hst (l.drop (iZ acc l 0 0)) (iZ acc l 0 0) _ (fun y hy=>⟨(hl y (List.mem_of_mem_drop hy)).1,(hl y (List.mem_of_mem_drop hy)).2.1⟩) hn;refine ⟨fun y hy=>?_,b⟩;obtain ⟨c1,c2,x,c3,c4⟩:=a y hy;exact ⟨c1,c2,x,List.mem_of_mem_drop c3,c4.1,c4.2,afJ acc l 0 0 (eG _) x (by simpa using c3)⟩
theorem NG:∀ (f:Nat) (l:List bZ),∀ q∈qY f l,∀ y∈q.2,y.key=q.1
 | 0,_,q,hq=>by cases hq
 | f+1,[],q,hq=>by cases hq
 | f+1,y :: r,q,hq=>by
  rw [qY] at hq
  rcases gK.1 hq with rfl|hq
  ·intro z hz
   rcases gK.1 hz with rfl|hz
   ·rfl
   have:=List.all_takeWhile (l:=r) (p:=fun z=>decide (z.key=y.key));rw [jE] at this
   simpa using this z hz
  exact NG f _ q hq
theorem aei {C:bE} {e:Int} (acc rej:Int->Bool) {props:List aO} (hp:xD C e props):∀ (L:List (Int × List bZ)) (s:List aO × List bZ),xD C e s.1->(∀ q∈L,q.2≠[]∧∀ y∈q.2,y.key=q.1∧Gj C e y) ->
  xD C e (um acc rej props L s).1∧∃ m,(um acc rej props L s).2=s.2++m∧(m.map bZ.key).Sublist ((L.flatMap Prod.snd).map bZ.key)∧∀ y∈m,Gj C e y∧∃ z∈L.flatMap Prod.snd,z.rev=y.rev∧rej z.rev=false∧acc z.rev=false
 | [],s,h,_=>by rw [um];exact ⟨h,[],by simp,lX _,fun y h=>by cases h⟩
 | (k,l) :: r,s,h,hL=>by
  obtain ⟨h1,h2⟩:=hL (k,l) dX;obtain ⟨a,b⟩:=afS acc rej hp h1 h2;have hln:=Xd acc rej props k l;rw [um];obtain ⟨c,m,d1,d2,d3⟩:=aei acc rej hp r (vI s.1 k (mJ acc rej props k l).2,s.2++(mJ acc rej props k l).1) (akw h b) fun q hq=>hL q (gW _ hq);refine ⟨c,(mJ acc rej props k l).1++m,by rw [d1,jv],?_,fun y hy=>?_⟩
  ·rw [List.flatMap_cons,kR,kR];refine List.Sublist.append ?_ d2;have e1:(mJ acc rej props k l).1.map bZ.key=List.replicate (mJ acc rej props k l).1.length k:=List.eq_replicate_iff.2 ⟨by simp,fun x hx=>by obtain ⟨y,hy,rfl⟩:=List.mem_map.1 hx;exact (a y hy).1⟩;have e2:l.map bZ.key=List.replicate l.length k:=List.eq_replicate_iff.2 ⟨by simp,fun x hx=>by obtain ⟨y,hy,rfl⟩:=List.mem_map.1 hx;exact (h2 y hy).1⟩;rw [e1,e2];exact (List.replicate_sublist_replicate k).2 hln
  rw [List.flatMap_cons]
  rcases jQ.1 hy with hy|hy
  ·obtain ⟨-,c2,x,c3,c4⟩:=a y hy;exact ⟨c2,x,jQ.2 (.inl c3),c4⟩
  obtain ⟨c2,x,c3,c4⟩:=d3 y hy;exact ⟨c2,x,jQ.2 (.inr c3),c4⟩
theorem Nf {C:bE} {e:Int} (acc rej:Int->Bool) {h:dN} (hh:Jj C e h):Jj C e (iI acc rej h)∧∀ y∈(iI acc rej h).marks.layers,∃ z∈h.marks.layers,z.rev=y.rev∧rej z.rev=false∧acc z.rev=false:=by
 obtain ⟨hel,hps,⟨m1,m2,m3,m4⟩,⟨d1,d2⟩,hln,⟨l1,l2⟩⟩:=hh;obtain ⟨f1,f2⟩:=Hg h.marks.layers.length h.marks.layers (eG _);obtain ⟨a,m,b1,b2,b3⟩:=aei acc rej hps (qY h.marks.layers.length h.marks.layers) (h.props,[]) hps fun q hq=>⟨f2 q hq,fun y hy=>⟨NG _ _ q hq y hy,l1 y (by rw [<- f1];exact List.mem_flatMap.2 ⟨q,hq,hy⟩)⟩⟩;rw [f1] at b2 b3;rw [mO] at b1;have hsub:=List.filter_sublist (p:=fun x:gG=>!rej x.rev) (l:=h.marks.bK);have hlen:=b2.length_le;rw [bS,bS] at hlen
 have hmk:(if kU acc h then 0 else h.marks.ins)=0∧(if kU acc h then 0 else h.marks.move)=0∨(if kU acc h then 0 else h.marks.ins)=h.marks.ins∧(if kU acc h then 0 else h.marks.move)=h.marks.move:=by
  by_cases hi:kU acc h
  ·exact .inl ⟨aD hi,aD hi⟩
  exact .inr ⟨av hi,av hi⟩
 refine ⟨⟨hel,a,?_,⟨fun x hx=>d1 x (hsub.subset hx),d2.sublist hsub⟩,?_,⟨fun y hy=>?_,?_⟩⟩,fun y hy=>?_⟩
 ·have hd:=hsub.length_le
  unfold iI
  dsimp only
  rcases hmk with ⟨e1,e2⟩|⟨e1,e2⟩
  ·rw [e1,e2];exact ⟨fun h=>absurd M h,O,fun h=>absurd M h,O⟩
  rw [e1,e2];exact ⟨m1,m2,m3,O⟩
 ·unfold iI;dsimp only;rw [b1];omega
 ·unfold iI at hy;dsimp only at hy;rw [b1] at hy;exact (b3 y hy).1
 ·unfold iI;dsimp only;rw [b1]
  exact List.pairwise_map.1 ((List.pairwise_map.2 l2).sublist b2)
 unfold iI at hy;dsimp only at hy;rw [b1] at hy;exact (b3 y hy).2
theorem QG {C:bE} {e:Int} (acc rej:Int->Bool) {h:dN} (hh:iG C e h=0):iG C e (iI acc rej h)=0:=(HZ C e _).2 (Nf acc rej ((HZ C e h).1 hh)).1
def Mw (l:List bV):Prop:=l.length<=256∧(∀ x∈l,xH x.author=true∧(0<=x.time∧x.time<=1099511627776)∧1<=x.id∧x.id<=1073741824)∧l.Pairwise fun x y=>x.id < y.id
theorem ajm {l:List bV} (h:Dx l=0):Mw l:=by
 have h1:=lN h _ (dX);have h2:=lN h _ (gW _ dX)
 have hl:l.length<=256:=by
  rw [tV Z,vO] at h1;omega
 have hi:∀ i (hi:i < l.length),Tg l i l[i]=0:=fun i hi=>by
  have h3:=BX h2 i O
  unfold CP at h3
  rwa [eB hi] at h3
 refine ⟨hl,fun x hx=>?_,?_⟩
 ·obtain ⟨i,hi',rfl⟩:=List.getElem_of_mem hx;have z:=lN (hi i hi');have z1:=R9 (z _ dX);rw [eB hi'] at z1;have z2:=z (dL (!xH l[i].author) 39) (by simp);have z3:=z (dL (!decide (0<=l[i].time∧l[i].time<=1099511627776)) 40) (by simp);rw [tV Z] at z2 z3;exact ⟨by simpa using z2,by simpa using z3,z1.1,z1.2.1⟩
 have step:∀ i (hi':i+1 < l.length),l[i].id < l[i+1].id:=fun i hi'=>by
  have z1:=(R9 (lN (hi (i+1) hi') _ dX)).2.2 O;rw [Nat.add_sub_cancel,eB hi',eB (show i < l.length by omega)] at z1;exact z1
 rw [List.pairwise_iff_getElem];intro i j hi' hj hij
 induction j with
 | zero=>omega
 | succ j ih =>
  by_cases e:i=j
  ·subst e;exact step i hj
  exact Int.lt_trans (ih O O) (step j hj)
theorem avx {id:Nat->Int} {i:Nat} (h1:1<=id i∧id i<=1073741824) (h2:0 < i->id (i - 1) < id i):wV id i=0:=by
 unfold wV
 rw [av (fun hn=>hn h1),av (fun hn=>by have:=h2 hn.1;omega),av (fun hn=>by have:=h2 hn.1;omega)]
theorem afQ {l:List bV} (h:Mw l):Dx l=0:=by
 obtain ⟨hl,hx,hp⟩:=h;refine Q5.2 ⟨(tV Z).2 (mY O),Jw fun i hi=>?_⟩
 have hi':i < l.length:=by omega
 unfold CP
 rw [eB hi'];have h1:=hx _ (lq hi');refine EX fun y hy=>?_
 simp only [gK,List.not_mem_nil,or_false] at hy
 rcases hy with rfl|rfl|rfl
 ·have e:∀ k (hk:k < l.length),(l[k]?.map bV.id).getD 0=l[k].id:=fun k hk=>by rw [eB hk];rfl
  exact avx (by rw [e i hi'];exact h1.2.2) (fun h0=>by
   rw [e i hi',e (i - 1) O]
   exact List.pairwise_iff_getElem.1 hp (i - 1) i O hi' O)
 ·rw [tV Z,h1.1];rfl
 rw [tV Z,mP h1.2.1];rfl
theorem Mw.sub {l m:List bV} (h:Mw l) (hs:m.Sublist l):Mw m:=⟨Nat.le_trans hs.length_le h.1,fun x hx=>h.2.1 x (hs.subset hx),h.2.2.sublist hs⟩
def uF (A:List qN):Int:=(A.map fun f=>FB f.items).sum
theorem aad (a b:List qN):uF (a++b)=uF a+uF b:=by simp [uF]
theorem TW (x:qN) (b:List qN):uF (x :: b)=FB x.items+uF b:=by simp [uF]
theorem aAL (A:List qN):O9 A=uF A:=by
 have key:∀ (A:List qN) (n:Int),A.foldl (fun n f=>n+FB f.items) n=n+uF A:=by
  intro A
  induction A with
  | nil=>intro n;simp [uF]
  | cons x A ih=>intro n;rw [List.foldl_cons,ih,TW];omega
 rw [O9,key];omega
theorem YX {C:bE} {body note:Bool} {t:Int} {l:List au} (h:iU C body note t l):FB l=I4 l:=by
 unfold FB
 rw [aD]
 unfold QL
 rw [jE];intro x hx;have h1:=(He ((SH x).1 (Eh.1 h x hx)).1).1;refine mP ?_
 unfold Pg Me;rw [aD h1];split <;> rfl
theorem aAJ (k c i:Int) (tx:ByteArray) (h:dN) (f:List au) (r:List aV):uI (.mk k c i tx h f r)=kg (.mk k c i tx h f r)+(if k=6 then jY f else if k=7 then pE r else 0):=by rw [uI];rfl
mutual
theorem aAN (C:bE) (body note:Bool) (t:Int) (n2:Bool) (t2:Int):∀ x:au,mq C body note t x->(kg x:Nat)+uF (Po n2 t2 x)=(uI x:Nat)
 | .mk k c i tx h f r,hx=>by
  have hf:=TY C false true t true t2 f;have hr:=akf C note (t+1) n2 t2 r;rw [mq] at hx;rw [aAJ,Po]
  by_cases h6:k=6
  ·subst h6;have ho:=hx.2.2.2.1 M;have:=hf ho;rw [aD M,aD M,TW];dsimp only;rw [YX ho];push_cast;omega
  by_cases h7:k=7
  ·subst h7;have:=hr (hx.2.2.2.2 M).2;rw [av h6,av h6,aD M,aD M];push_cast;omega
  rw [av h6,av h6,av h7,av h7];simp [uF]
theorem aAO (C:bE) (note:Bool) (t:Int) (n2:Bool) (t2:Int):∀ x:aV,pY C note t x->uF (Pp n2 t2 x)=(uR x:Nat)
 | .mk h cs,hx=>by
  have hc:=akd C note t n2 t2 cs;rw [pY] at hx;rw [uR,Pp];exact hc hx.2
theorem aAM (C:bE) (note:Bool) (t:Int) (n2:Bool) (t2:Int):∀ x:aX,pX C note t x->uF (Pm n2 t2 x)=(uC x:Nat)
 | .mk i h f,hx=>by
  have hf:=TY C false note t n2 (t2+1) f;rw [pX] at hx;have:=hf hx.2;rw [uC,Pm,TW];dsimp only;rw [YX hx.2];omega
theorem TY (C:bE) (body note:Bool) (t:Int) (n2:Bool) (t2:Int):∀ l:List au,iU C body note t l->(I4 l:Nat)+uF (Da n2 t2 l)=(jY l:Nat)
 | [],_=>by simp [I4,Da,uF,jY]
 | x :: l,h=>by
  rw [iU] at h;have h1:=aAN C body note t n2 t2 x h.1;have h2:=TY C body note t n2 t2 l h.2;rw [I4,Da,jY,aad];push_cast;omega
theorem akf (C:bE) (note:Bool) (t:Int) (n2:Bool) (t2:Int):∀ l:List aV,kL C note t l->uF (FT n2 t2 l)=(pE l:Nat)
 | [],_=>by simp [FT,uF,pE]
 | x :: l,h=>by
  rw [kL] at h;have h1:=aAO C note t n2 t2 x h.1;have h2:=akf C note t n2 t2 l h.2;rw [FT,pE,aad];push_cast;omega
theorem akd (C:bE) (note:Bool) (t:Int) (n2:Bool) (t2:Int):∀ l:List aX,lH C note t l->uF (FR n2 t2 l)=(qg l:Nat)
 | [],_=>by simp [FR,uF,qg]
 | x :: l,h=>by
  rw [lH] at h;have h1:=aAM C note t n2 t2 x h.1;have h2:=akd C note t n2 t2 l h.2;rw [FR,qg,aad];push_cast;omega
end
theorem ake {C:bE} {body note:Bool} {t:Int} {l:List au} (h:iU C body note t l):O9 (Ki l)=(jY l:Nat):=by
 have:=TY C body note t false 0 l h;rw [aAL,Ki,TW];dsimp only;rw [YX h];exact this
theorem Sw {d:gu} (h:iT d=0):iT (oZ d)=0∧O9 (Ki (kK d.flow))=O9 (Ki d.flow):=by
 obtain ⟨h1,h2,h3,h4,h5⟩:=(Ap d).1 h;obtain ⟨e1,e2⟩:=avv h3;exact ⟨(Ap (oZ d)).2 ⟨h1,h2,aiy h3,by show lK [] [] (jD (kK d.flow));rw [e1];exact h4,by show jY (kK d.flow)<=_;rw [e2];exact h5⟩,by rw [ake (aiy h3),ake h3,e2]⟩
theorem ajI (l:List Int):(oI l).Pairwise (·<=·):=by
 have h:=List.pairwise_mergeSort (le:=leI) (fun a b c h1 h2=>by simp only [leI,oM] at *;omega) (fun a b=>by simp only [leI,Bool.or_eq_true,oM];omega) l
 exact h.imp fun h=>by simpa [leI] using h
theorem ahI (d:gu):(fun r:bV=>oU (oI (nP (oZ d))) r.id)=fun r=>decide (r.id∈nP (oZ d)):=by
 funext r
 rw [Kq (ajI _)];exact decide_eq_decide.2 (by rw [oI,List.mem_mergeSort])
theorem abF {p:Prop} (h:p:=by
 intro hm;obtain ⟨x,hx,e⟩:=List.mem_map.1 (show (0:Int)∈d.revs.map bV.id from hm);have:=(hg.2.1 x hx).2.2.1
 omega):p:=h
theorem Zb {d:gu} (h:iT d=0):iT (nD d)=0:=by
 obtain ⟨h1,h2,h3,h4,h5⟩:=(Ap _).1 (Sw h).1;have hg:=ajm h1.2
 have h0:(0:Int)∉(oZ d).kS.kM:=by
  exact abF
 have hin:∀ q∈LC (oZ d),q≠0->q∈(nD d).kS.kM:=by
  intro q hq hn
  have hu:q∈nP (oZ d):=by
   unfold nP
   rw [List.mem_filter,oM,ME];exact ⟨.inr hq,hn⟩
  have hr:=(Te (Sw h).1 q hq).resolve_left hn;obtain ⟨x,hx,rfl⟩:=List.mem_map.1 hr
  show x.id∈(nD d).revs.map bV.id
  refine List.mem_map.2 ⟨x,?_,M⟩
  show x∈d.revs.filter _
  rw [ahI,List.mem_filter];exact ⟨hx,mP hu⟩
 refine (Ap (nD d)).2 ⟨⟨h1.1,afQ (hg.sub List.filter_sublist)⟩,⟨NQ (C:=(oZ d).kS) (C':=(nD d).kS) M M h0 (fun q hq hn=>hin q (by unfold LC;exact List.mem_append_right _ hq) hn) h2.1,h2.2⟩,OO (C:=(oZ d).kS) (C':=(nD d).kS) M M h0 true false 0 _ (fun x hx q hq hn=>hin q (by unfold LC;exact List.mem_append_left _ (List.mem_flatMap.2 ⟨x,hx,hq⟩)) hn) h3,h4,h5⟩
mutual
theorem awN (C:bE) (body note:Bool) (t:Int):∀ x:au,mq C body note t x->Lg x
 | .mk k c i tx h f r,hx=>by
  have hf:=SA C false true t f;have hr:=aiq C note (t+1) r;rw [mq] at hx;obtain ⟨-,-,ahk,agw⟩:=He hx.1;dsimp only [au.kind,au.rows,au.flow] at ahk agw;rw [Lg];refine ⟨?_,?_⟩
  ·by_cases h6:k=6
   ·exact hf (hx.2.2.2.1 h6)
   rw [agw h6,wX];trivial
  by_cases h7:k=7
  ·exact hr (hx.2.2.2.2 h7).2
  rw [ahk h7,Ee];trivial
theorem awO (C:bE) (note:Bool) (t:Int):∀ x:aV,pY C note t x->FJ x
 | .mk h cs,hx=>by
  have hc:=aip C note t cs;rw [pY] at hx;rw [FJ];refine ⟨fun e=>?_,hc hx.2⟩;have z:=lN hx.1 (dL (decide ((cs.length:Int)=0)) 11) (by simp);rw [tV Z,e] at z
  simp at z
theorem awM (C:bE) (note:Bool) (t:Int):∀ x:aX,pX C note t x->FH x
 | .mk i h f,hx=>by
  have hf:=SA C false note t f;rw [pX] at hx;rw [FH];exact hf hx.2
theorem SA (C:bE) (body note:Bool) (t:Int):∀ l:List au,iU C body note t l->wX l
 | [],_=>by rw [wX];trivial
 | x :: l,h=>by
  rw [iU] at h;rw [wX];exact ⟨awN C body note t x h.1,SA C body note t l h.2⟩
theorem aiq (C:bE) (note:Bool) (t:Int):∀ l:List aV,kL C note t l->Ee l
 | [],_=>by rw [Ee];trivial
 | x :: l,h=>by
  rw [kL] at h;rw [Ee];exact ⟨awO C note t x h.1,aiq C note t l h.2⟩
theorem aip (C:bE) (note:Bool) (t:Int):∀ l:List aX,lH C note t l->FI l
 | [],_=>by rw [FI];trivial
 | x :: l,h=>by
  rw [lH] at h;rw [FI];exact ⟨awM C note t x h.1,aip C note t l h.2⟩
end
theorem awC {d:gu} (hz:Aj d):Aj (nD d):=⟨Nat.le_trans (aat _) hz.fl,hz.hd,Nat.le_trans (List.length_filter_le _ _) hz.rn,fun x hx=>hz.rt x (List.mem_filter.1 hx).1,hz.sn,hz.st⟩
theorem awz {d:gu} (hz:Aj d) (h:iT d=0):wX d.flow∧dH (kK d.flow)<=1073741824∧(∀ k∈nP (oZ d),-9223372036854775808<=k∧k < 9223372036854775808)∧(nP (oZ d)).length<=4294967296:=by
 have h0:=(Sw h).1;refine ⟨SA _ _ _ _ _ ((Ap d).1 h).2.2.1,Nat.le_trans (aat _) hz.fl,fun q hq=>by have:=aA0 h0 hq;omega,?_⟩;exact Nat.le_trans (aAZ h0) hz.rn
section
theorem WZ {k c i:Int} {tx:ByteArray} {h h':dN} {f f':List au} {r r':List aV} (hx:lu (.mk k c i tx h f r)=0) (hf:k≠6->f'=f) (hr:k≠7->r'=r):lu (.mk k c i tx h' f' r')=0:=by
 have e:wP (.mk k c i tx h' f' r')=wP (.mk k c i tx h f r):=by
  rw [rT]
  simp only [wP,Bool.or_eq_true,iL,oM]
  have c1:xL (.mk k c i tx h' f' r')=xL (.mk k c i tx h f r):=rfl;have c2:yj (.mk k c i tx h' f' r')=yj (.mk k c i tx h f r):=rfl;have c3:Ae (.mk k c i tx h' f' r')=Ae (.mk k c i tx h f r):=rfl;rw [c1,c2,c3]
  show (((((_∧c≠0)∨(_∧i≠0))∨(_∧(!vT tx)=true))∨(k≠6∧0 < (f'.length:Int)))∨(k≠7∧0 < (r'.length:Int)))↔(((((_∧c≠0)∨(_∧i≠0))∨(_∧(!vT tx)=true))∨(k≠6∧0 < (f.length:Int)))∨(k≠7∧0 < (r.length:Int)))
  by_cases h6:k=6
  ·subst h6;rw [hr Z];simp
  rw [hf h6]
  by_cases h7:k=7
  ·subst h7;simp
  rw [hr h7]
 have e2:codeOk (.mk k c i tx h' f' r')=codeOk (.mk k c i tx h f r):=rfl;have e3:Aa (.mk k c i tx h' f' r')=Aa (.mk k c i tx h f r):=rfl
 unfold lu at hx |-
 rw [e,e2,e3];exact hx
theorem KW (k c i:Int) (tx:ByteArray) (h:dN) (f:List au) (r:List aV):rC (.mk k c i tx h f r)=(if k=6∨k=7 then [i] else [])++(if k=6 then jD f else if k=7 then nV r else []):=by
 rw [rC]
 by_cases h6:k=6
 ·rw [aD h6,aD h6,av (show ¬ k=7 by omega),ig]
 rw [av h6,av h6,mO]
theorem ahu:∀ a b:List aV,nV (a++b)=nV a++nV b
 | [],b=>by simp [nV]
 | x :: a,b=>by simp [nV,ahu a b]
theorem aht:∀ a b:List aX,oV (a++b)=oV a++oV b
 | [],b=>by simp [oV]
 | x :: a,b=>by simp [oV,aht a b]
theorem akb:∀ a b:List aV,pE (a++b)=pE a+pE b
 | [],b=>by simp [pE]
 | x :: a,b=>by simp [pE,akb a b];omega
theorem ajZ:∀ a b:List aX,qg (a++b)=qg a+qg b
 | [],b=>by simp [qg]
 | x :: a,b=>by simp [qg,ajZ a b];omega
theorem Tp {C:bE} {h:dN} {n:Nat}:Ej C h n=0↔iG C 9 h=0∧n≠0∧n<=32:=by
 constructor
 ·intro h;have z:=lN h;have z2:=z (dL (decide ((n:Int)=0)) 11) (by simp);have z3:=z (dL (decide (32 < (n:Int))) 9) (by simp);rw [tV Z,vO] at z2 z3;exact ⟨z _ dX,O,O⟩
 rintro ⟨h1,h2,h3⟩;refine EX fun x hx=>?_
 simp only [gK,List.not_mem_nil,or_false] at hx
 rcases hx with rfl|rfl|rfl
 ·exact h1
 ·rw [tV Z,vO];omega
 rw [tV Z,vO];omega
variable {acc rej:Int->Bool}
mutual
theorem ays (C:bE) (body note:Bool) (t:Int):∀ x:au,mq C body note t x->iU C body note t (nu acc rej x)∧(jD (nu acc rej x)).Sublist (rC x)∧jY (nu acc rej x)<=uI x
 | .mk k c i tx h f r,hx=>by
  have hf:=Ti C false true t f;have hr:=aiU C note (t+1) r;rw [mq] at hx;obtain ⟨h1,h2,h3,h4,h5⟩:=hx;have hd:=QG acc rej h3;have nil:iU C body note t []∧(jD []).Sublist (rC (.mk k c i tx h f r))∧jY []<=uI (.mk k c i tx h f r):=⟨by rw [iU];trivial,by rw [jD];exact List.nil_sublist _,by rw [jY];exact lg _⟩;have one:∀ y:au,mq C body note t y->(rC y).Sublist (rC (.mk k c i tx h f r))->uI y<=uI (.mk k c i tx h f r)->iU C body note t [y]∧(jD [y]).Sublist (rC (.mk k c i tx h f r))∧jY [y]<=uI (.mk k c i tx h f r):=fun y a b c=>⟨by rw [iU,iU];exact ⟨a,aB⟩,by rw [jD,jD,ig];exact b,by rw [jY,jY];exact c⟩;rw [nu]
  split
  ·exact nil
  split
  ·rename_i h6
   obtain ⟨a1,a2,a3⟩:=hf (h4 h6);refine one _ ?_ ?_ ?_
   ·rw [mq];exact ⟨WZ h1 (fun h=>absurd h6 h) fun _=>rfl,h2,hd,fun _=>a1,fun h=>absurd h O⟩
   ·rw [KW,KW];rw [aD h6,aD h6];exact (lX _).append a2
   rw [uI,uI,aD h6,aD h6];omega
  split
  ·rename_i h6 h7
   split
   ·exact nil
   rename_i hn
   obtain ⟨h5,h8⟩:=h5 h7;obtain ⟨a1,a2,a3⟩:=hr h8;have hl:=ZB (acc:=acc) (rej:=rej) r;refine one _ ?_ ?_ ?_
   ·rw [mq];exact ⟨WZ h1 (fun _=>rfl) fun h=>absurd h7 h,h2,hd,fun h=>absurd h h6,fun _=>⟨⟨hn,O⟩,a1⟩⟩
   ·rw [KW,KW];rw [av h6,av h6,aD h7,aD h7];exact (lX _).append a2
   rw [uI,uI,av h6,av h6,aD h7,aD h7];omega
  rename_i h6 h7
  refine one _ ?_ ?_ ?_
  ·rw [mq];exact ⟨WZ h1 (fun _=>rfl) fun _=>rfl,h2,hd,fun h=>absurd h h6,fun h=>absurd h h7⟩
  ·rw [KW,KW];exact lX _
  rw [uI,uI];exact eG _
theorem ayt (C:bE) (note:Bool) (t:Int):∀ x:aV,pY C note t x->kL C note t (pq acc rej x)∧(nV (pq acc rej x)).Sublist (wu x)∧pE (pq acc rej x)<=uR x
 | .mk h cs,hx=>by
  have hc:=aiT C note t cs;rw [pY] at hx;obtain ⟨h1,h2⟩:=hx;obtain ⟨a1,a2,a3⟩:=hc h2;have hl:=Zz (acc:=acc) (rej:=rej) cs;have nil:kL C note t []∧(nV []).Sublist (wu (.mk h cs))∧pE []<=uR (.mk h cs):=⟨by rw [kL];trivial,by rw [nV];exact List.nil_sublist _,by rw [pE];exact lg _⟩;rw [pq]
  split
  ·exact nil
  split
  ·exact nil
  rename_i hn
  rw [kL,kL,nV,nV,pE,pE,pY,wu,wu,uR,uR,ig];refine ⟨⟨⟨?_,a1⟩,aB⟩,a2,a3⟩;obtain ⟨z1,z2,z3⟩:=Tp.1 h1;exact Tp.2 ⟨QG acc rej z1,hn,O⟩
theorem ayr (C:bE) (note:Bool) (t:Int):∀ x:aX,pX C note t x->lH C note t (pI acc rej x)∧(oV (pI acc rej x)).Sublist (wT x)∧qg (pI acc rej x)<=uC x
 | .mk i h f,hx=>by
  have hf:=Ti C false note t f;rw [pX] at hx;obtain ⟨h1,h2⟩:=hx;obtain ⟨a1,a2,a3⟩:=hf h2;rw [pI]
  split
  ·exact ⟨by rw [lH];trivial,by rw [oV];exact List.nil_sublist _,by rw [qg];exact lg _⟩
  rw [lH,lH,oV,oV,qg,qg,pX,wT,wT,uC,uC,ig];exact ⟨⟨⟨QG acc rej h1,a1⟩,aB⟩,(lX [i]).append a2,a3⟩
theorem Ti (C:bE) (body note:Bool) (t:Int):∀ l:List au,iU C body note t l->iU C body note t (dW acc rej l)∧(jD (dW acc rej l)).Sublist (jD l)∧jY (dW acc rej l)<=jY l
 | [],_=>by rw [dW];exact ⟨by rw [iU];trivial,lX _,eG _⟩
 | x :: l,h=>by
  rw [iU] at h;obtain ⟨a1,a2,a3⟩:=ays C body note t x h.1;obtain ⟨b1,b2,b3⟩:=Ti C body note t l h.2;rw [dW,Ox,O5,jD,jY];exact ⟨Eh.2 fun y hy=>(jQ.1 hy).elim (Eh.1 a1 y) (Eh.1 b1 y),a2.append b2,O⟩
theorem aiU (C:bE) (note:Bool) (t:Int):∀ l:List aV,kL C note t l->kL C note t (gT acc rej l)∧(nV (gT acc rej l)).Sublist (nV l)∧pE (gT acc rej l)<=pE l
 | [],_=>by rw [gT];exact ⟨by rw [kL];trivial,lX _,eG _⟩
 | x :: l,h=>by
  rw [kL] at h;obtain ⟨a1,a2,a3⟩:=ayt C note t x h.1;obtain ⟨b1,b2,b3⟩:=aiU C note t l h.2;rw [gT,ahu,akb,nV,pE];exact ⟨SI.2 fun y hy=>(jQ.1 hy).elim (SI.1 a1 y) (SI.1 b1 y),a2.append b2,O⟩
theorem aiT (C:bE) (note:Bool) (t:Int):∀ l:List aX,lH C note t l->lH C note t (gD acc rej l)∧(oV (gD acc rej l)).Sublist (oV l)∧qg (gD acc rej l)<=qg l
 | [],_=>by rw [gD];exact ⟨by rw [lH];trivial,lX _,eG _⟩
 | x :: l,h=>by
  rw [lH] at h;obtain ⟨a1,a2,a3⟩:=ayr C note t x h.1;obtain ⟨b1,b2,b3⟩:=aiT C note t l h.2;rw [gD,aht,ajZ,oV,qg];exact ⟨SG.2 fun y hy=>(jQ.1 hy).elim (SG.1 a1 y) (SG.1 b1 y),a2.append b2,O⟩
end
def jJ (acc rej:Int->Bool) (d:gu):gu:=⟨dW acc rej d.flow,eU acc rej d.fin,d.revs,d.iH⟩
theorem OI {d:gu} (h:iT d=0):iT (jJ acc rej d)=0:=by
 rw [Ap] at h |-;obtain ⟨h1,⟨h2,h3⟩,h4,h5,h6⟩:=h;obtain ⟨a1,a2,a3⟩:=Ti (acc:=acc) (rej:=rej) _ true false 0 d.flow h4
 unfold vg at h3
 rw [vO] at h3;have hd:d.fin.marks.bK=[]:=List.eq_nil_of_length_eq_zero O
 have hg:¬ lZ acc rej d.fin:=fun h=>h.elim (fun h=>h3 (.inl (.inl h.1))) fun ⟨x,hx,_⟩=>by rw [hd] at hx;cases hx
 have ha:eU acc rej d.fin=iI acc rej d.fin:=av hg;refine ⟨h1,⟨?_,?_⟩,a1,h5.sub a2,by show jY (dW acc rej d.flow)<=_;omega⟩
 ·show iG d.kS 3 (eU acc rej d.fin)=0
  rw [ha];exact QG acc rej h2
 show vg (eU acc rej d.fin).marks=false
 rw [ha]
 unfold vg iI
 rw [vO];dsimp only;rw [hd];rintro ((h|h)|h)
 ·split at h
  ·exact h M
  exact h3 (.inl (.inl h))
 ·split at h
  ·exact h M
  exact h3 (.inl (.inr h))
 simp at h
structure yF (n:Nat) (d:gu):Prop where
 z:Aj d
 fl:dH d.flow<=n
 hd:mX d.fin<=n
theorem Zc {n:Nat} {d:gu} (h:yF n d):yF n (nD d):=⟨awC h.z,Nat.le_trans (aat _) h.fl,h.hd⟩
theorem Tw {n:Nat} {d:gu} (h:yF n d) (hn:2*n<=1073741824) (hn0:16<=n):yF (2*n) (jJ acc rej d):=by
 have h1:=TD (acc:=acc) (rej:=rej) d.flow
 have h2:mX (eU acc rej d.fin)<=2*n:=by
  unfold eU
  split
  ·show mX BG<=_
   simp [FU,BG,fu];try omega
  have:=QI (acc:=acc) (rej:=rej) d.fin;have:=h.hd;omega
 have h3:=h.fl;refine ⟨⟨by show dH (dW acc rej d.flow)<=_;omega,Nat.le_trans h2 O,h.z.rn,h.z.rt,h.z.sn,h.z.st⟩,by show dH (dW acc rej d.flow)<=_;omega,h2⟩
end
theorem WK:aS 96:=aT func96 M
theorem Cm:dP prog 43 0 0:=⟨V⟩
theorem WG:aS 76:=aT func76 M
theorem EU:dP prog 43 1 1:=⟨V⟩
theorem aqL:aS 97:=aT func97 M
theorem aqo:aS 46:=aT func46 M
theorem aqM:aS 99:=aT func99 M
theorem aqp:aS 48:=aT func48 M
theorem aot:aS 118:=aT func118 M
theorem sK.Sv {acc rej:Int->Bool} {h:dN} {G:GH} {p d l:ah} (hh:jr G (eU acc rej h) p d l):sK acc rej h (.tuple #[.agg #[p,vi (eU acc rej h).marks.ins,vi (eU acc rej h).marks.move,d,l],.bool (!decide (lZ acc rej h))]) G:=by
 unfold sK
 by_cases hg:lZ acc rej h
 ·have e:eU acc rej h=BG:=aD hg;rw [aD hg,mP hg];rw [e] at hh |-;exact ⟨p,d,l,M,hh⟩
 have e:eU acc rej h=iI acc rej h:=av hg;rw [av hg,mY hg];rw [e] at hh |-;exact ⟨p,d,l,M,hh⟩
theorem aA7 (G:GH):Dm (.func (.func 97) #[] #[]) G (fun _=>false) fun _=>true:=by
 intro G1 w0 hm hG r;refine jy (caps:=[]) aqL ?_;refine eN [(0,_)] func97 M ntmps97 M M hG ?_;intro a H;refine kP H (SR fun _ K1=>Ra M (aj K1 M (SR fun _ K2=>Ra M (aj K2 M ?_))));clear H K1 K2;intro a H;refine fE ?_;refine (kJ H results97 (.cons (fM H M) (.cons (fM H M) .nil)) ?_).1;exact xK
theorem ayO (G:GH):Dl (.func (.func 46) #[] #[]) G (fun _=>false) fun _=>true:=by
 intro G1 w0 hm hG h p d l hh hz;refine jy (caps:=[]) aqo ?_;obtain ⟨pA,pn,pc,rfl⟩:=hh.props.form;obtain ⟨dA,dn,dc,rfl⟩:=hh.bK.form;obtain ⟨lA,ln,lc,rfl⟩:=hh.layers.form;refine eN [(0,_)] func46 M ntmps46 M M hG ?_;intro a H;refine dz (fun _ K1=>?_);refine dR (cs:=[_,_,_,_,_]) H wn M M M ?_;clear H;intro b1 a w hb1 H;refine dJ fB H wn M ?_;clear H;intro b2 a w hb2 H;refine kH H (aj K1 M (SR fun _ K2=>?_));clear H K1;intro a H;refine aU fB (cs:=[_,_,_,_,_]) H wn M M (H.hp.cB 1 M M) M ?_;clear H;intro a H;refine s_call WK H wn M (Y8 _ _ H.ro _ _ _ (aA7 _) M h _ _ _ hh hz) M ?_;clear H;rintro v5 G5 a w hd5 Fg H;obtain ⟨q1,q2,q3,q4,q5,q6,q7,q8,q9,rfl,uD⟩:=hd5.ans;(iterate 2 refine lT H wn M M M ?_;clear H;intro a H);refine bC fB 0 (vs:=[_,_,_,_,_]) H wn M ?_;clear H;intro w H;refine kH H (aj K2 M ?_);clear H K2;intro a H;refine fE ?_;refine (kJ H results46 (.cons (ny fB (cs:=[_,_,_,_,_]) H M M (H.hp.cB 0 M M)) (.cons (fM H M) .nil)) ?_).1;exact H.rt (sK.Sv uD)
theorem aA6 (G:GH):Dm (.func (.func 99) #[] #[]) G (fun _=>true) fun _=>false:=by
 intro G1 w0 hm hG r;refine jy (caps:=[]) aqM ?_;refine eN [(0,_)] func99 M ntmps99 M M hG ?_;intro a H;refine kP H (SR fun _ K1=>Ra M (aj K1 M (SR fun _ K2=>Ra M (aj K2 M ?_))));clear H K1 K2;intro a H;refine fE ?_;refine (kJ H results99 (.cons (fM H M) (.cons (fM H M) .nil)) ?_).1;exact xK
theorem ayN (G:GH):Dl (.func (.func 48) #[] #[]) G (fun _=>true) fun _=>false:=by
 intro G1 w0 hm hG h p d l hh hz;refine jy (caps:=[]) aqp ?_;obtain ⟨pA,pn,pc,rfl⟩:=hh.props.form;obtain ⟨dA,dn,dc,rfl⟩:=hh.bK.form;obtain ⟨lA,ln,lc,rfl⟩:=hh.layers.form;refine eN [(0,_)] func48 M ntmps48 M M hG ?_;intro a H;refine dz (fun _ K1=>?_);refine dR (cs:=[_,_,_,_,_]) H wn M M M ?_;clear H;intro b1 a w hb1 H;refine dJ fB H wn M ?_;clear H;intro b2 a w hb2 H;refine kH H (aj K1 M (SR fun _ K2=>?_));clear H K1;intro a H;refine aU fB (cs:=[_,_,_,_,_]) H wn M M (H.hp.cB 1 M M) M ?_;clear H;intro a H;refine s_call WK H wn M (Y8 _ _ H.ro _ _ _ (aA6 _) M h _ _ _ hh hz) M ?_;clear H;rintro v5 G5 a w hd5 Fg H;obtain ⟨q1,q2,q3,q4,q5,q6,q7,q8,q9,rfl,uD⟩:=hd5.ans;(iterate 2 refine lT H wn M M M ?_;clear H;intro a H);refine bC fB 0 (vs:=[_,_,_,_,_]) H wn M ?_;clear H;intro w H;refine kH H (aj K2 M ?_);clear H K2;intro a H;refine fE ?_;refine (kJ H results48 (.cons (ny fB (cs:=[_,_,_,_,_]) H M M (H.hp.cB 0 M M)) (.cons (fM H M) .nil)) ?_).1;exact H.rt (sK.Sv uD)
abbrev lsB (l:List Int):Int->Bool:=fun k=>oU l k
theorem aA5 {G:GH} {b:Nat} {A R:List Int} {va vr:ah} (ha:aH G b 0=some va) (hr:aH G b 1=some vr) (hva:ak G (.sl 1 (A.map fun k=>[li k])) va) (mR:ak G (.sl 1 (R.map fun k=>[li k])) vr) (hla:A.length<=4294967296) (hlr:R.length<=4294967296) :
  Dm (.func (.func 118) #[] #[(aK b 0)]) G (lsB A) (lsB R):=by
 intro G1 w0 hm hG r;refine jy (caps:=[(aK b 0)]) aot ?_;replace ha:=aC hm ha;replace hr:=aC hm hr;replace hva:=hva.mono hm;replace mR:=mR.mono hm;refine eN [(0,_),(1,_)] func118 M ntmps118 M M hG ?_;intro a H;refine kP H (SR fun _ K1=>Ra M (aj K1 M (SQ fun _ K2=>?_)));clear H K1;intro a H;refine dI hmx [[],[0],[],[0,1,2],[],[4],[],ra 0 7,ra 0 8,ra 0 9] [8,9] V [_,_,_,.bool (lsB A r),_,_,_,.bool (lsB R r)] H (ay (Z0 M (Rf Cm M)) (X1 0 5 M fun hG=>Rg mE M (aC hG ha)) (Z0 M (Rm M)) ?_ (ay (Z0 M (Rf EU M)) (X1 4 9 M fun hG=>Rg mE M (aC hG hr)) (Z0 M (Rm M)) ?_ (bN (bT M) (bN (bT M) dB)))) ?_
 ·refine eT 1 6 2 7 M M fun _ a w G1 hG HT H fin=>?_;refine s_call WG H wn M (Y9 _ _ H.ro A r _ (hva.mono hG) hla) M ?_;clear H;rintro v8 G8 a w rfl tC H;exact fin H tC (rfl)
 ·refine eT 5 10 6 11 M M fun _ a w G1 hG HT H fin=>?_;refine s_call WG H wn M (Y9 _ _ H.ro R r _ (mR.mono hG) hlr) M ?_;clear H;rintro v12 Df a w rfl oQ H;exact fin H oQ (rfl)
 clear H;intro a w G jC H hv;have H:=H.aN (hv 3 8 M M) M;have H:=H.aN (hv 7 12 M M) M;clear hv;refine kH H (Ra M (Ra M ?_));clear H;intro a H;refine aG ⟨M,?_⟩;refine K2 _ _ ?_;clear K2;refine fE ?_;refine (kJ H results118 (.cons (fM H M) (.cons (fM H M) .nil)) ?_).1;exact xK
theorem awn (G:GH) (w0:World) (hG:Hold G w0) (A R:List Int) (aA rA:Option Addr) (an ac rn rc:Nat) (hva:ak G (.sl 1 (A.map fun k=>[li k])) (.slice aA an ac)) (mR:ak G (.sl 1 (R.map fun k=>[li k])) (.slice rA rn rc)) (hla:A.length<=4294967296) (hlr:R.length<=4294967296) (h:dN) (p d l:ah) (hh:jr G h p d l) (hz:mX h<=1073741824) :
  Calls prog 65 #[sj h p d l,.agg #[.slice aA an ac,.slice rA rn rc]] w0 (bG w0 G (sK (lsB A) (lsB R) h)):=by
 obtain ⟨pA,pn,pc,rfl⟩:=hh.props.form;obtain ⟨dA,dn,dc,rfl⟩:=hh.bK.form;obtain ⟨lA,ln,lc,rfl⟩:=hh.layers.form;refine eN [(0,_),(1,_)] func65 M ntmps65 M M hG ?_;intro a H;refine dz (fun _ K1=>?_);refine dR (cs:=[_,_,_,_,_]) H wn M M M ?_;clear H;intro b2 a w hb2 H;refine dR (cs:=[_,_]) H wn M M M ?_;clear H;intro b3 a w hb3 H;refine dJ fB H wn M ?_;clear H;intro b4 a w hb4 H;refine kH H (aj K1 M (SQ fun _ K2=>?_));clear H K1;intro a H;have H:=H.fH (Pl:=[_,_,_]) (eD:=[_,_,_]) [1,0,2] Z M;obtain ⟨Ga,hma,hb',H⟩:=H.fF;have hga:=fun j v hj=>lY hb' 0 [.slice aA an ac,.slice rA rn rc] M j v hj;refine nU ?_;refine aU fB (cs:=[_,_,_,_,_]) H wn M M (H.hp.cB 1 M M) M ?_;clear H;intro a H;refine uJ H wn M M ?_;clear H;intro a H;refine s_call WK H wn M (Y8 _ _ H.ro _ _ _ (aA5 (hga 0 _ M) (hga 1 _ M) (hva.mono hma) (mR.mono hma) hla hlr) M h _ _ _ (hh.mono hma) hz) M ?_;clear H;rintro v8 G8 a w hd8 rz H;obtain ⟨q1,q2,q3,q4,q5,q6,q7,q8,q9,rfl,Ky⟩:=hd8.ans;(iterate 2 refine lT H wn M M M ?_;clear H;intro a H);refine bC fB 0 (vs:=[_,_,_,_,_]) H wn M ?_;clear H;intro w H;refine kH H (bD K2 M ?_);clear H K2;intro a H;refine fE ?_;refine (kJ H results65 (.cons (ny fB (cs:=[_,_,_,_,_]) H M M (H.hp.cB 0 M M)) (.cons (fM H M) .nil)) ?_).1;exact H.rt (sK.Sv Ky)
theorem aoE:aS 135:=aT func135 M
theorem I7:prog.underlying 134=some (.slice 41):=by kernel_rfl
theorem aqG:aS 74:=aT func74 M
theorem aqH:aS 75:=aT func75 M
theorem avB (G:GH) (w0:World) (hG:Hold G w0) (l:List Int) (p:Int->Bool) (v fv:ah) (hv:ak G (.sl 1 (l.map fun k=>[li k])) v) (hf:Ai fv G p) (hl:l.length<=4294967296) :
  Calls prog 135 #[v,fv] w0 (bG w0 G fun u G'=>u=vi (oG (l.findIdx? p))):=by
 obtain ⟨A,c,rfl,hc1,hc2,-⟩:=hv.slice;rw [bS] at *;refine eN [(0,_),(1,_)] func135 M ntmps135 M M hG ?_;intro a H;refine kP H (SR fun _ K1=>aj K1 M (SQ fun _ K2=>SR fun _ K3=>Rm M (Rl jZ M (Rm M (Kz K3 (SB ?_))))));clear H K1 K3;intro a H;skip;refine eX (ι:=Nat × GH) (Tc:=[(0,_),(1,_),(7,_)]) (Lc:=[]) (fun gh=>[(8,vi gh.1)]) (fun gh=>[]) (fun gh=>gh.2) (fun gh=>gh.1<=l.length∧(l.take gh.1).findIdx? p=none∧(∀ b o,G b=some o->gh.2 b=some o)) (fun gh=>l.length - gh.1) ((0,G)) (by exact H.sub ⟨M,M,M,M,aB⟩) ?_ ?_
 ·exact rU
 clear H;rintro ⟨k,g⟩ a w hI H;dsimp only at hI H;obtain ⟨hk,hno,hgm⟩:=hI;dsimp only [lca,bM] at H;refine kP H (SR fun _ K4=>Rc M (Kz K4 (SQ fun _ K5=>Cd M ?_ ?_))) <;> clear H K4
 ·intro h9 a H
  try have p9:=dT h9
  have hk2:k < l.length:=by omega
  obtain ⟨b,o,rfl,hrow⟩:=Fy (f:=fun q=>q) hv hk2
  replace hrow:aH g b (o+k*1)=some (vi l[k]):=by rw [Nat.mul_one];exact aC hgm hrow
  refine kP H (Kc K5 (SQ fun _ K6=>SB (SR fun _ K7=>Rm M (aj K7 M (SR fun _ K8=>Rm M (Rm M (Rm M (Ri jZ aF M M (Rg aF M hrow ?_)))))))));clear H K5 K7;intro a H;refine jO H wn M M (hf _ _ hgm H.ro l[k]) M ?_;clear H;rintro v16 tX a w rfl nL H;refine K8 _ _ ?_;clear K8;refine jw H M ?_ ?_
  ·intro h16
   try have p16:=dT h16
   refine kP H (SR fun _ K9=>Rm M (aj K9 M ?_));clear H K9;intro a H;refine lr H results135 M ?_
   exact xJ
  intro h16
  try have p16:=dF h16
  refine kP H (Kc K6 (SC (Rd M (Rm M ?_))));clear H K6;intro a H;refine aG ?_;refine dY ((k+1,tX)) (by exact H.sub ⟨M,M,M,M,aB⟩) ?_
  (try dsimp only);exact U2
 intro h9 a H
 try have p9:=dF h9
 refine dQ ?_;refine K2 _ _ ?_;clear K2;refine kP H (SR fun _ aR=>aj aR M ?_);clear H aR;intro a H;refine lr H results135 M ?_
 exact xJ
theorem anG (G:GH) (w0:World) (hG:Hold G w0) (l:List Int) (p:Int->Bool) (v fv:ah) (hv:ak G (.sl 1 (l.map fun k=>[li k])) v) (hf:Ai fv G p) (hl:l.length<=4294967296) :
  Calls prog 74 #[v,fv] w0 (bG w0 G fun u G'=>u=.bool (l.findIdx? p).isSome):=by
 refine eN [(0,_),(1,_)] func74 M ntmps74 M M hG ?_;intro a H;refine kP H (SR fun _ K1=>aj K1 M (SR fun _ K2=>Rm M (Rm M ?_)));clear H K1;intro a H;refine s_call aoE H wn M (avB _ _ H.ro l p _ _ hv hf hl) M ?_;clear H;rintro v7 G7 a w rfl uG H;refine kH H (Rc M (aj K2 M ?_));clear H K2;intro a H;refine lr H results74 M ?_
 exact H.rt (by cases h:l.findIdx? p <;> simp [oG])
theorem amv {G:GH} {b:Nat} {R:List Int} {vr:ah} (hr:aH G b 1=some vr) (mR:ak G (.sl 1 (R.map fun k=>[li k])) vr) (hlr:R.length<=4294967296) :
  Ai (.func (.func 75) #[] #[(aK b 0)]) G (lsB R):=by
 intro G1 w0 hm hG r;refine jy (caps:=[(aK b 0)]) aqH ?_;replace hr:=aC hm hr;replace mR:=mR.mono hm;refine eN [(0,_),(1,_)] func75 M ntmps75 M M hG ?_;intro a H;refine kP H (SR fun _ K1=>aj K1 M (SR fun _ K2=>Rf EU M (Rg mE M hr (Rm M ?_))));clear H K1;intro a H;refine s_call WG H wn M (Y9 _ _ H.ro R r _ mR hlr) M ?_;clear H;rintro v7 G7 a w rfl uG H;exact kH H (aj K2 M (LR results75 M fun H=>H.rt M))
def qW (l:List Int) (i:Nat):Int:=match l[i]? with
 | some n=>if n < 1∨1073741824 < n then 22 else if 0 < i∧n=l.getD (i - 1) 0 then 7 else if 0 < i∧n < l.getD (i - 1) 0 then 6 else 0
 | none=>0
def yL (A R:List Int):Int:=dO [iX (qW A) A.length,iX (qW R) R.length,dL (A.findIdx? (lsB R)).isSome 23]
theorem Wp {l:List Int} {k:Nat} (h:k < l.length):qW l k=if l[k] < 1∨1073741824 < l[k] then 22 else if 0 < k∧l[k]=l.getD (k - 1) 0 then 7 else if 0 < k∧l[k] < l.getD (k - 1) 0 then 6 else 0:=by
 unfold qW;rw [eB h]
theorem amu {A R l:List Int} {o k:Nat} {e:Int} (hx:(o=0∧l=A)∨(o=1∧l=R)) (hA:0 < o->iX (qW A) A.length=0) (hk:k < l.length) (he:dO (((List.range l.length).map (qW l)).drop k)=iX (qW l) l.length) (h:qW l k=e) (hn:e≠0):vi e=vi (yL A R):=by
 rw [Gn hk,aD (by rw [h];exact hn),h] at he
 rcases hx with ⟨-,rfl⟩|⟨rfl,rfl⟩
 ·unfold yL;rw [<- he,dO,aD hn]
 unfold yL;rw [hA Z,<- he,dO,av Z,dO,aD hn]
theorem amt {l:List Int} {k:Nat} (hk:k < l.length) (he:dO (((List.range l.length).map (qW l)).drop k)=iX (qW l) l.length) (h:qW l k=0):dO (((List.range l.length).map (qW l)).drop (k+1))=iX (qW l) l.length:=by
 rw [<- he,Gn hk,av (by rw [h];decide)]
theorem adF {l:List Int} {k:Nat} (hk:l.length<=k) (he:dO (((List.range l.length).map (qW l)).drop k)=iX (qW l) l.length):iX (qW l) l.length=0:=by
 rw [<- he,uh (by simpa using hk)];rfl
theorem aby {p:Prop} (h:p:=by
 first
  | exact H.rt (amu hx Ya hk2 he (by rw [Wp hk2];(repeat' split) <;> first|rfl|(exfalso;simp_all;done)|(exfalso;simp_all;omega)) Z)
  | exact H.rt (by unfold yL;rw [Ya O,hoR O,dO,av Z,dO,av Z,kI];rfl)):p:=h
theorem Vd {p:Prop} (h:p:=by
 exact ⟨O,amt hk2 he (by rw [Wp hk2];(repeat' split) <;> first|rfl|(exfalso;simp_all;done)|(exfalso;simp_all;omega))⟩):p:=h
theorem acJ {p:Prop} (h:p:=by
 intro a H;refine aG ?_;refine dY (k+1) (by exact H.sub ⟨M,M,M,M,M,M,M,M,aB⟩) ?_
 exact Vd):p:=h
theorem JL {p:Prop} (h:p:=by
 intro a H;refine lr H results23 M ?_
 exact aby):p:=h
set_option maxHeartbeats 2000000 in
theorem VY (G:GH) (w0:World) (hG:Hold G w0) (A R:List Int) (va vr:ah) (hva:ak G (.sl 1 (A.map fun k=>[li k])) va) (mR:ak G (.sl 1 (R.map fun k=>[li k])) vr) (hla:A.length<=4294967296) (hlr:R.length<=4294967296) :
  Calls prog 23 #[.agg #[va,vr]] w0 (bG w0 G fun u G'=>u=vi (yL A R)):=by
 obtain ⟨aA,ac,rfl,ha1,ha2,-⟩:=hva.slice;obtain ⟨rA,rc,rfl,hr1,hr2,-⟩:=mR.slice
 simp only [bS] at *
 refine eN [(0,_)] func23 M ntmps23 M M hG ?_;intro a H;refine dz (fun _ K1=>?_);refine dR (cs:=[_,_]) H wn M M M ?_;clear H;intro b1 a w hb1 H;refine kH H (aj K1 M (SQ fun _ K2=>SQ fun _ K3=>?_));clear H K1;intro a H;obtain ⟨Ga,hma,hb',H⟩:=H.fF;have hga:=fun j v hj=>lY hb' 0 [.slice aA A.length ac,.slice rA R.length rc] M j v hj;replace hva:=hva.mono hma;replace mR:=mR.mono hma;refine kP H (SC (Rf Cm M (Rg mE M (aC (by first|assumption|exact fun _ _ h=>h) (hga 0 _ M)) ?_)));clear H;intro a H;refine kH H (Rf EU M (Rg mE M (hga 1 _ M) ?_));clear H;intro a H;refine iC I7 mE [_,_] [_,_] H wn M M M M M (by intro i q h;match i,h with|0,h=>exact h|1,h=>exact h|n+2,h=>simp at h) M M ?_;clear H;intro b11 a w Kt H;obtain ⟨Gb,hmb,Cr,H⟩:=H.fF;have hgb:=fun j v hj=>lY Cr 0 [.slice aA A.length ac,.slice rA R.length rc] M j v hj;replace hva:=hva.mono hmb;replace mR:=mR.mono hmb;refine kH H (Rl I7 M (Rm M (Kn K3 (SB ?_))));clear H K3;intro a H;skip;refine eX (ι:=Nat) (Tc:=[(1,_),(11,_),(12,_)]) (Lc:=[]) (fun gh=>[(13,vi gh)]) (fun gh=>[]) (fun gh=>Gb) (fun gh=>gh<=2∧(0 < gh->iX (qW A) A.length=0)∧(1 < gh->iX (qW R) R.length=0)) (fun gh=>2 - gh) (0) (by exact H.sub ⟨M,M,M,M,aB⟩) ?_ ?_
 ·exact ⟨O,fun h=>absurd h Z,fun h=>absurd h Z⟩
 clear H;intro o a w hI H;obtain ⟨ho,Ya,hoR⟩:=hI;dsimp only [lca,bM] at H;refine kP H (SR fun _ K4=>Rc M (Kz K4 (SQ fun _ K5=>Cd M ?_ ?_))) <;> clear H K4
 ·intro eO a H
  try have lS:=dT eO
  have ho2:o < 2:=by omega
  obtain ⟨l,lA,lc,hx,hgl,hvl,hll,hl2⟩:∃ (l:List Int) (lA:Option Addr) (lc:Nat),((o=0∧l=A)∨(o=1∧l=R))∧aH Gb b11 (0+o*1)=some (.slice lA l.length lc)∧ak Gb (.sl 1 (l.map fun k=>[li k])) (.slice lA l.length lc)∧l.length<=lc∧l.length<=4294967296:=by
   match o,ho2 with
   | 0,_=>exact ⟨A,aA,ac,.inl ⟨M,M⟩,hgb 0 _ M,hva,O,hla⟩
   | 1,_=>exact ⟨R,rA,rc,.inr ⟨M,M⟩,hgb 1 _ M,mR,O,hlr⟩
  refine kP H (Kc K5 (SQ fun _ K6=>SB (SR fun _ K7=>Ri I7 mE M M (Rg mE M hgl (aj K7 M (SR fun _ K8=>Rm M (Rl jZ M (Rm M (Kz K8 (SB ?_))))))))));clear H K5 K7 K8;intro a H;skip;refine eX (ι:=Nat) (Tc:=[(1,_),(4,_),(11,_),(12,_),(13,_),(17,_),(18,_)]) (Lc:=[]) (fun gh=>[(19,vi gh)]) (fun gh=>[]) (fun gh=>Gb) (fun gh=>gh<=l.length∧dO (((List.range l.length).map (qW l)).drop gh)=iX (qW l) l.length) (fun gh=>l.length - gh) (0) (by exact H.sub ⟨M,M,M,M,M,M,M,M,aB⟩) ?_ ?_
  ·exact ⟨O,M⟩
  clear H;intro k a w hI H;obtain ⟨hk,he⟩:=hI;dsimp only [lca,bM] at H;refine kP H (SR fun _ K9=>Rc M (Kz K9 (SQ fun _ aR=>Cd M ?_ ?_))) <;> clear H K9
  ·intro h20 a H
   try have IK:=dT h20
   have hk2:k < l.length:=by omega
   obtain ⟨bl,ol,rfl,hrow⟩:=Fy (f:=fun q=>q) hvl hk2
   replace hrow:aH Gb bl (ol+k*1)=some (vi l[k]):=by rw [Nat.mul_one];exact hrow
   have oF:aH Gb bl (ol+(k - 1)*1)=some (vi (l.getD (k - 1) 0)):=by
    obtain ⟨b',o',e,hr'⟩:=Fy (f:=fun q=>q) hvl (show k - 1 < l.length by omega)
    injection e with e
    injection e with e1 e2
    subst e1;subst e2;rw [Nat.mul_one,hr',List.getD_eq_getElem?_getD,eB];rfl
   refine kP H (Kc aR (SQ fun _ bq=>SB (SR fun _ bP=>Rm M (Ri jZ aF M M (Rg aF M hrow (Ra M (aj bP M (SB (SR fun _ bU=>Rm M (Rc M (Rm M (Sp 27 M ?_ ?_)))))))))))) <;> clear H aR bP
   ·intro h27 a H
    try have p27:=dT h27
    refine kH H (aL h27 M (Pt h27 M (aj bU M (Ct M M (SR fun _ dh=>aj dh M ?_)))));clear H bU dh;exact JL
   intro h27 a H
   try have p27:=dF h27
   refine kH H (YM h27 M (YC h27 M (Pf h27 M (aj bU M (Cd M ?_ ?_))))) <;> clear H bU
   ·intro cK a H
    try have kV:=dT cK
    refine kP H (SR fun _ dZ=>aj dZ M ?_);clear H dZ;exact JL
   intro cK a H
   try have kV:=dF cK
   refine kP H (SR fun _ eu=>Rm M (Rc M (Rm M (Sp 34 M ?_ ?_)))) <;> clear H
   ·intro fq a H
    try have p34:=dT fq
    refine kH H (YM fq M (YM fq M (YM fq M ?_)));clear H;intro a H;refine zo _ H (wg H M M fq) M M M O O M ?_;clear H;intro a H;rw [show ((k:Int) - 1)=((k - 1:Nat):Int) by omega] at H;refine kH H (YI jZ aF fq M M (YR aF fq M oF (YC fq M (Pt fq M (aj eu M (Cd M ?_ ?_)))))) <;> clear H eu
    ·intro h31 a H
     try have p31:=dT h31
     refine kP H (SR fun _ dS=>aj dS M ?_);clear H dS;exact JL
    intro h31 a H
    try have p31:=dF h31
    refine kP H (SR fun _ eY=>Rm M (Rc M (Rm M (Sp 46 M ?_ ?_)))) <;> clear H
    ·intro h46 a H
     try have p46:=dT h46
     refine kH H (YM h46 M (YM h46 M (YM h46 M ?_)));clear H;intro a H;refine zo _ H (wg H M M h46) M M M O O M ?_;clear H;intro a H;rw [show ((k:Int) - 1)=((k - 1:Nat):Int) by omega] at H;refine kH H (YI jZ aF h46 M M (YR aF h46 M oF (YC h46 M (Pt h46 M (aj eY M (Cd M ?_ ?_)))))) <;> clear H eY
     ·intro h43 a H
      try have p43:=dT h43
      refine kP H (SR fun _ gU=>aj gU M ?_);clear H gU;exact JL
     intro h43 a H
     try have p43:=dF h43
     refine kP H (Kc bq (SC (Rd M (Rm M ?_))));clear H bq;intro a H;refine aG ?_;refine dY (k+1) (by exact H.sub ⟨M,M,M,M,M,M,M,M,aB⟩) ?_
     exact Vd
    intro h46 a H
    try have p46:=dF h46
    refine kH H (aP h46 M (aL h46 M (aL h46 M (Pf h46 M (aj eY M (Cf M M (Kc bq (SC (Rd M (Rm M ?_))))))))));clear H eY bq;exact acJ
   intro fq a H
   try have p34:=dF fq
   refine kH H (aP fq M (aL fq M (aL fq M (Pf fq M (aj eu M (Cf M M (SR fun _ fJ=>Rm M (Rc M (Rm M (Sp 46 M ?_ ?_)))))))))) <;> clear H eu
   ·intro h46 a H
    try have p46:=dT h46
    refine kH H (YM h46 M (YM h46 M (YM h46 M ?_)));clear H;intro a H;refine zo _ H (wg H M M h46) M M M O O M ?_;clear H;intro a H;rw [show ((k:Int) - 1)=((k - 1:Nat):Int) by omega] at H;refine kH H (YI jZ aF h46 M M (YR aF h46 M oF (YC h46 M (Pt h46 M (aj fJ M (Cd M ?_ ?_)))))) <;> clear H fJ
    ·intro h43 a H
     try have p43:=dT h43
     refine kP H (SR fun _ iD=>aj iD M ?_);clear H iD;exact JL
    intro h43 a H
    try have p43:=dF h43
    refine kP H (Kc bq (SC (Rd M (Rm M ?_))));clear H bq;exact acJ
   intro h46 a H
   try have p46:=dF h46
   refine kH H (aP h46 M (aL h46 M (aL h46 M (Pf h46 M (aj fJ M (Cf M M (Kc bq (SC (Rd M (Rm M ?_))))))))));clear H fJ bq;intro a H;refine aG ?_;refine dY (k+1) (by exact H.sub ⟨M,M,M,M,M,M,M,M,aB⟩) ?_
   exact Vd
  intro h20 a H
  try have IK:=dF h20
  refine dQ ?_;refine K6 _ _ ?_;clear K6;refine kP H (SC (Rd M (Rm M ?_)));clear H;intro a H;refine aG ?_;refine dY (o+1) (by exact H.sub ⟨M,M,M,M,aB⟩) ?_
  exact ⟨O,fun _=>by rcases hx with ⟨rfl,rfl⟩|⟨rfl,rfl⟩;exact adF O he;exact Ya Z,fun _=>by rcases hx with ⟨rfl,rfl⟩|⟨rfl,rfl⟩;omega;exact adF O he⟩
 intro eO a H
 try have lS:=dF eO
 refine dQ ?_;refine K2 _ _ ?_;clear K2;refine kP H (SQ fun _ jL=>SR fun _ mM=>Rf Cm M (Rg mE M (aC (by first|assumption|exact fun _ _ h=>h) (hga 0 _ M)) ?_));clear H;intro a H;refine uJ H wn M M ?_;clear H;intro a H;refine s_call aqG H wn M (anG _ _ H.ro A _ _ _ hva (amv (aC hmb (hga 1 _ M)) mR hlr) hla) M ?_;clear H;rintro v60 G60 a w rfl aCh H;refine mM _ _ ?_;clear mM;refine jw H M ?_ ?_
 ·intro kI
  try have p60:=dT kI
  refine kP H (SR fun _ mH=>aj mH M ?_);clear H mH;exact JL
 intro kI
 try have p60:=dF kI
 refine kP H (Kc jL (SR fun _ kX=>aj kX M ?_));clear H jL kX;intro a H;refine lr H results23 M ?_
 exact aby
theorem apg:aS 17:=aT func17 M
theorem WB:aS 47:=aT func47 M
theorem kD:Ty prog 43 2 48 [.slice none 0 0,.slice none 0 0] true:=⟨V,V⟩
theorem aqB:aS 65:=aT func65 M
theorem Wy:aS 23:=aT func23 M
theorem ajH:qQ prog 43 [(0,1),(1,1)] [.slice none 0 0,.slice none 0 0]:=⟨V,V⟩
theorem Nl:aS 22:=aT func22 M
theorem aqF:aS 73:=aT func73 M
set_option maxHeartbeats 2000000 in
theorem aan {acc rej:Int->Bool} (G:GH) (w0:World) (hG:Hold G w0) (fv:ah) (hf:Dl fv G acc rej) (D:kN) (d:gu) (hR:oL G D d) (hs:yF 536870912 d) (hc:iT d=0) :
  Calls prog 47 #[fv,D.val] w0 (bG w0 G fun u G'=>∃ D':kN,u=D'.val∧oL G' D' (nD (jJ acc rej d))):=by
 obtain ⟨df,dp,dd,dy,dr,d1,d2,d3,d4,ins,mv⟩:=D;have hok:=OI (acc:=acc) (rej:=rej) hc;have hfl:=hs.fl;have hhd:=hs.hd;have hz2:Aj (jJ acc rej d):=(Tw hs Z Z).z;obtain ⟨p1,p2,p3,p4⟩:=awz hz2 hok;obtain ⟨hRf,hRh,hRi,hRm,hRr,hRs⟩:=hR;dsimp only at hRi hRm;subst hRi hRm;refine eN [(0,_),(1,_)] func47 M ntmps47 M M hG ?_;intro a H;refine dz (fun _ K1=>?_);refine dR (cs:=[_,_,_,_,_,_,_,_,_,_,_]) H wn M M M ?_;clear H;intro b3 a w hb3 H;refine dJ iB H wn M ?_;clear H;intro b4 a w hb4 H;refine K1 _ _ ?_;clear K1;refine kP H (SR fun _ K2=>Rm M (bQ vX kW 1 M M ?_));clear H;intro a H;refine s_call WM H wn M (ajb 536870913 (eG _) _ _ H.ro hf d.flow _ hRf O) M ?_;clear H;rintro v8 G8 a w hv8 rz H;obtain ⟨fA,fn,fc,rfl⟩:=hv8.form;refine kH H (Rf vX M ?_);clear H;intro a H;refine bC kW 1 (vs:=[_]) H wn M ?_;clear H;intro w H;refine K2 _ _ ?_;clear K2;refine kP H (SR fun _ K3=>Rm M (Rf Cj M ?_));clear H;intro a H;refine aU fB (cs:=[_,_,_,_,_]) H wn M M (H.hp.cB 1 M M) M ?_;clear H;intro a H;refine jO H wn M M (hf _ _ rz H.ro d.fin _ _ _ (hRh.mono rz) O) M ?_;clear H;rintro v14 EB a w atK D6 H;obtain ⟨q1,q2,q3,q4,q5,q6,q7,q8,q9,rfl,auc⟩:=atK.ans;refine kH H (Rm M ?_);clear H;intro a H;(iterate 2 refine lT H wn M M M ?_;clear H;intro a H);refine kH H (Rf Cj M ?_);clear H;intro a H;refine bC fB 1 (vs:=[_,_,_,_,_]) H wn M ?_;clear H;intro w H;refine K3 _ _ ?_;clear K3;refine dz (fun _ K4=>?_);refine aU iB (cs:=(⟨(fA,fn,fc),(q1,q2,q3),(q4,q5,q6),(q7,q8,q9),dr,d1,d2,d3,d4,(eU acc rej d.fin).marks.ins,(eU acc rej d.fin).marks.move⟩:kN).cells) H wn M M (H.hp.cB 1 M M) M ?_;clear H;intro a H;refine s_call apg H wn M (anU _ _ H.ro ⟨(fA,fn,fc),(q1,q2,q3),(q4,q5,q6),(q7,q8,q9),dr,d1,d2,d3,d4,(eU acc rej d.fin).marks.ins,(eU acc rej d.fin).marks.move⟩ (jJ acc rej d) ⟨hv8.mono D6,auc,M,M,hRr.mono (fun b o h=>D6 b o (rz b o h)),hRs.mono fun b o h=>D6 b o (rz b o h)⟩ hz2 p1 p2 p3 p4) M ?_;clear H;rintro v19 Jf a w ⟨E,rfl,hE⟩ uE H;refine bC iB 0 (vs:=[_,_,_,_,_,_,_,_,_,_,_]) H wn M ?_;clear H;intro w H;refine K4 _ _ ?_;clear K4;refine fE ?_;refine (leave1 H results47 (.cons (ny iB (cs:=[_,_,_,_,_,_,_,_,_,_,_]) H M M (H.hp.cB 0 M M)) .nil) ?_).1;exact H.rt ⟨E,M,hE⟩
theorem ayl (G:GH) (w0:World) (hG:Hold G w0) (D:kN) (d:gu) (hR:oL G D d) (hs:yF 536870912 d) (hc:iT d=0) :
  Calls prog 14 #[D.val] w0 (bG w0 G fun u G'=>∃ D':kN,u=D'.val∧oL G' D' (nD (jJ (fun _=>false) (fun _=>true) d))):=by
 refine eN [(0,_)] func14 M ntmps14 M M hG ?_;intro a H;refine dz (fun _ K1=>?_);refine dR (cs:=[_,_,_,_,_,_,_,_,_,_,_]) H wn M M M ?_;clear H;intro b1 a w hb1 H;refine dJ iB H wn M ?_;clear H;intro b2 a w hb2 H;refine K1 _ _ ?_;clear K1;refine dz (fun _ K2=>?_);refine aU iB (cs:=[_,_,_,_,_,_,_,_,_,_,_]) H wn M M (H.hp.cB 1 M M) M ?_;clear H;intro a H;refine s_call WB H wn M (aan _ _ H.ro _ (ayO _) D d hR hs hc) M ?_;clear H;rintro v4 G4 a w ⟨E,rfl,hE⟩ NW H;refine bC iB 0 (vs:=[_,_,_,_,_,_,_,_,_,_,_]) H wn M ?_;clear H;intro w H;refine K2 _ _ ?_;clear K2;refine fE ?_;refine (leave1 H results14 (.cons (ny iB (cs:=[_,_,_,_,_,_,_,_,_,_,_]) H M M (H.hp.cB 0 M M)) .nil) ?_).1;exact H.rt ⟨E,M,hE⟩
theorem ayk (G:GH) (w0:World) (hG:Hold G w0) (D:kN) (d:gu) (hR:oL G D d) (hs:yF 536870912 d) (hc:iT d=0) :
  Calls prog 15 #[D.val] w0 (bG w0 G fun u G'=>∃ D':kN,u=D'.val∧oL G' D' (nD (jJ (fun _=>true) (fun _=>false) d))):=by
 refine eN [(0,_)] func15 M ntmps15 M M hG ?_;intro a H;refine dz (fun _ K1=>?_);refine dR (cs:=[_,_,_,_,_,_,_,_,_,_,_]) H wn M M M ?_;clear H;intro b1 a w hb1 H;refine dJ iB H wn M ?_;clear H;intro b2 a w hb2 H;refine K1 _ _ ?_;clear K1;refine dz (fun _ K2=>?_);refine aU iB (cs:=[_,_,_,_,_,_,_,_,_,_,_]) H wn M M (H.hp.cB 1 M M) M ?_;clear H;intro a H;refine s_call WB H wn M (aan _ _ H.ro _ (ayN _) D d hR hs hc) M ?_;clear H;rintro v4 G4 a w ⟨E,rfl,hE⟩ NW H;refine bC iB 0 (vs:=[_,_,_,_,_,_,_,_,_,_,_]) H wn M ?_;clear H;intro w H;refine K2 _ _ ?_;clear K2;refine fE ?_;refine (leave1 H results15 (.cons (ny iB (cs:=[_,_,_,_,_,_,_,_,_,_,_]) H M M (H.hp.cB 0 M M)) .nil) ?_).1;exact H.rt ⟨E,M,hE⟩
theorem axX {G:GH} {b:Nat} {A R:List Int} {aA rA:Option Addr} {an ac rn rc:Nat} (hb:G b=some (.cells #[.slice aA an ac,.slice rA rn rc] 43 (0,0))) (hva:ak G (.sl 1 (A.map fun k=>[li k])) (.slice aA an ac)) (mR:ak G (.sl 1 (R.map fun k=>[li k])) (.slice rA rn rc)) (hla:A.length<=4294967296) (hlr:R.length<=4294967296) :
  Dl (.func (.func 73) #[] #[(aK b 0)]) G (lsB A) (lsB R):=by
 intro G1 w0 hm hG h p d l hh hz;refine jy (caps:=[(aK b 0)]) aqF ?_;have hga:=fun j v hj=>aC hm (lY hb 0 [.slice aA an ac,.slice rA rn rc] M j v hj);replace hva:=hva.mono hm;replace mR:=mR.mono hm;obtain ⟨pA,pn,pc,rfl⟩:=hh.props.form;obtain ⟨dA,dn,dc,rfl⟩:=hh.bK.form;obtain ⟨lA,ln,lc,rfl⟩:=hh.layers.form;refine eN [(0,_),(1,_)] func73 M ntmps73 M M hG ?_;intro a H;refine dz (fun _ K1=>?_);refine dR (cs:=[_,_,_,_,_]) H wn M M M ?_;clear H;intro b2 a w hb2 H;refine dJ fB H wn M ?_;clear H;intro b3 a w hb3 H;refine kH H (aj K1 M (SR fun _ K2=>?_));clear H K1;intro a H;refine aU fB (cs:=[_,_,_,_,_]) H wn M M (H.hp.cB 1 M M) M ?_;clear H;intro a H;refine aU kD (cs:=[.slice aA an ac,.slice rA rn rc]) H wn M M (fun j v hj=>H.hp.aH (hga j v hj)) M ?_;clear H;intro a H;refine s_call aqB H wn M (awn _ _ H.ro A R aA rA an ac rn rc hva mR hla hlr h _ _ _ hh hz) M ?_;clear H;rintro v7 G7 a w hd7 uG H;obtain ⟨q1,q2,q3,q4,q5,q6,q7,q8,q9,rfl,AZ⟩:=hd7.ans;(iterate 2 refine lT H wn M M M ?_;clear H;intro a H);refine bC fB 0 (vs:=[_,_,_,_,_]) H wn M ?_;clear H;intro w H;refine kH H (aj K2 M ?_);clear H K2;intro a H;refine fE ?_;refine (kJ H results73 (.cons (ny fB (cs:=[_,_,_,_,_]) H M M (H.hp.cB 0 M M)) (.cons (fM H M) .nil)) ?_).1;exact H.rt (sK.Sv AZ)
def aBq:gu:=⟨[],BG,[],⟨[],[],[],[]⟩⟩
def FK (A R:List Int) (d:gu):gu:=if yL A R=0 then nD (jJ (lsB A) (lsB R) d) else aBq
theorem abz {p:Prop} (h:p:=by
 first
  | exact H.rt ⟨E,by rw [show yL A R=0 from by simp_all],by unfold FK;rw [aD (by simp_all)];exact hE⟩
  | exact H.rt ⟨⟨(none,0,0),(none,0,0),(none,0,0),(none,0,0),(none,0,0),(none,0,0),(none,0,0),(none,0,0),(none,0,0),0,0⟩,M,by unfold FK;rw [av (by simp_all)];exact ⟨ak.qK M Z,akJ _,M,M,ak.qK M Z,ak.qK M Z,ak.qK M Z,ak.qK M Z,ak.qK M Z⟩⟩):p:=h
theorem OH (G:GH) (w0:World) (hG:Hold G w0) (D:kN) (d:gu) (hR:oL G D d) (hs:yF 536870912 d) (hc:iT d=0) (A R:List Int) (va vr:ah) (hva:ak G (.sl 1 (A.map fun k=>[li k])) va) (mR:ak G (.sl 1 (R.map fun k=>[li k])) vr) (hla:A.length<=4294967296) (hlr:R.length<=4294967296) :
  Calls prog 22 #[D.val,.agg #[va,vr]] w0 (bG w0 G fun u G'=>∃ D':kN,u=.tuple #[D'.val,vi (yL A R)]∧oL G' D' (FK A R d)):=by
 obtain ⟨aA,an,ac,rfl⟩:=hva.form;obtain ⟨rA,rn,rc,rfl⟩:=mR.form;refine eN [(0,_),(1,_)] func22 M ntmps22 M M hG ?_;intro a H;refine dz (fun _ K1=>?_);refine dR (cs:=[_,_,_,_,_,_,_,_,_,_,_]) H wn M M M ?_;clear H;intro b2 a w hb2 H;refine dR (cs:=[_,_]) H wn M M M ?_;clear H;intro b3 a w hb3 H;refine dJ iB H wn M ?_;clear H;intro b4 a w hb4 H;refine kH H (aj K1 M (SQ fun _ K2=>SQ fun _ K3=>?_));clear H K1;intro a H;have H:=H.fH (Pl:=[_,_,_]) (eD:=[_,_,_]) [1,0,2] Z M;obtain ⟨Ga,hma,hb',H⟩:=H.fF;have hga:=fun j v hj=>lY hb' 0 [.slice aA an ac,.slice rA rn rc] M j v hj;replace hva:=hva.mono hma;replace mR:=mR.mono hma;replace hR:=hR.mono hma;refine nU ?_;refine aU kD (cs:=[.slice aA an ac,.slice rA rn rc]) H wn M M (fun j v hj=>H.hp.aH (hga j v hj)) M ?_;clear H;intro a H;refine s_call Wy H wn M (VY _ _ H.ro A R _ _ hva mR hla hlr) M ?_;clear H;rintro v8 G8 a w rfl rz H;refine kH H (bD K3 M (SR fun _ K4=>Rm M (Rc M (Kz K4 (Cd M ?_ ?_))))) <;> clear H K3 K4
 ·intro h10 a H
  try have jc:=dT h10
  refine dz (fun _ K5=>?_);refine jU ZV [_,_,_,_,_,_,_,_,_,_,_] H wn M M M M ?_;clear H;intro a H;refine kH H (Rm M ?_);clear H;intro a H;refine bC iB 0 (vs:=[_,_,_,_,_,_,_,_,_,_,_]) H wn M ?_;clear H;intro w H;refine kH H (aj K5 M ?_);clear H K5;intro a H;refine fE ?_;refine (kJ H results22 (.cons (ny iB (cs:=[_,_,_,_,_,_,_,_,_,_,_]) H M M (H.hp.cB 0 M M)) (.cons (fM H M) .nil)) ?_).1
  exact abz
 intro h10 a H
 try have jc:=dF h10
 refine iE ?_;refine K2 _ _ ?_;clear K2;refine dz (fun _ K6=>?_);refine uJ H wn M M ?_;clear H;intro a H;refine aU iB (cs:=[_,_,_,_,_,_,_,_,_,_,_]) H wn M M (H.hp.cB 1 M M) M ?_;clear H;intro a H;refine s_call WB H wn M (aan _ _ H.ro _ (axX (rz _ _ hb') (hva.mono rz) (mR.mono rz) hla hlr) D d (hR.mono rz) hs hc) M ?_;clear H;rintro v15 Dg a w ⟨E,rfl,hE⟩ A9 H;refine bC iB 0 (vs:=[_,_,_,_,_,_,_,_,_,_,_]) H wn M ?_;clear H;intro w H;refine kH H (aj K6 M ?_);clear H K6;intro a H;refine fE ?_;refine (kJ H results22 (.cons (ny iB (cs:=[_,_,_,_,_,_,_,_,_,_,_]) H M M (H.hp.cB 0 M M)) (.cons (fM H M) .nil)) ?_).1
 exact abz
section
section
variable {N:Nat} {D:List Deferred} {w0:World} {F:Nat->Prop} {G0 G G1 G2:GH} {L L1 L2:OL} {T Xs:List (Nat × ah)}
variable {r:Option Nat} {P:Program} {Q:Exit->Act->World->Prop} {l:List Oper} {a a':Act} {w w':World}
end
end
section
theorem sK.mono {acc rej:Int->Bool} {h:dN} {u:ah} {G G':GH} (hm:∀ b o,G b=some o->G' b=some o) (hd:sK acc rej h u G):sK acc rej h u G':=by
 unfold sK at hd |-
 split
 ·rename_i hg
  rw [aD hg] at hd;obtain ⟨p,d,l,e,hh⟩:=hd;exact ⟨p,d,l,e,hh.mono hm⟩
 rename_i hg
 rw [av hg] at hd;obtain ⟨p,d,l,e,hh⟩:=hd;exact ⟨p,d,l,e,hh.mono hm⟩
structure PL (G:GH) (A R:List Int) (va vr:ah):Prop where
 ha:ak G (.sl 1 (A.map fun k=>[li k])) va
 hr:ak G (.sl 1 (R.map fun k=>[li k])) vr
 la:A.length<=4294967296
 lr:R.length<=4294967296
theorem PL.mono {G G':GH} {A R:List Int} {va vr:ah} (hm:∀ b o,G b=some o->G' b=some o) (h:PL G A R va vr):PL G' A R va vr:=⟨h.ha.mono hm,h.hr.mono hm,h.la,h.lr⟩
variable {A R:List Int} {aA rA:Option Addr} {an ac rn rc:Nat}
end

theorem Now.up {α:Type} {xs:List AP} {P:α->AP} {J:Nat->GH->OL->Prop} {je j:Nat} {A:List α} {g g':GH} {L:OL} (h:Now xs P J je j A g L) (zO:F6 J) (hm:∀ b o,g b=some o->g' b=some o):Now xs P J je j A g' L:=⟨zO _ _ _ _ hm h.now,h.rem,h.len⟩



def ahC (k:Int):List Dat:=[li k]
theorem avI (G:GH) (k:Int):bB G (ahC k) [vi k]:=by
 simp only [ahC,bB]
 exact ⟨_,_,M,by simp [ak,Value.oneCell'],M⟩
theorem aBh (l m:List au):dH (l++m)=dH l+dH m:=by simp [dH,LW]

def afC (t:Int) (a:Nat × au):Bool:=decide ((a.1:Int)+kg a.2<=t)
def lA (t:Int) (A:List (Nat × au)):List au:=(A.filter (afC t)).map (·.2)
def rA (t:Int) (A:List (Nat × au)):List au:=(A.filter fun a=>!afC t a).map (·.2)
def aaB (l:List au):Prop:=∀ (k:Nat) (h:k+1 < l.length),¬ (l[k].kind=1∧l[k+1].kind=1∧l[k].head=l[k+1].head)
theorem aaB.one {l:List au} (h:l.length<=1):aaB l:=fun k hk=>by omega


theorem aas:∀ {m l:List au},m.Sublist l->dH m<=dH l
 | _,_,.slnil=>eG _
 | _,_,.cons a h=>by have:=aas h;simp only [dH,fD,fu] at *;omega
 | _,_,.cons_cons a h=>by have:=aas h;simp only [dH,fD,fu] at *;omega
theorem WJ:aS 95:=aT func95 M
theorem apE:aS 21:=aT func21 M
abbrev Dr (b:Nat) (n:Int):Nat × Obj:=(b,.cells #[vi n] 3 (0,0))
def SmQ (bl:Nat) (left:Int) (z:Nat) (u:ah) (_:GH) (L':OL):Prop:=∃ b lf,u=.bool b∧L'=[Dr bl lf]∧left - (z:Int)<=lf∧lf<=left
def UO (n:Nat):Prop:=∀ (G:GH) (w0:World) (l:List au) (v:ah) (KY left:Int) (bl:Nat),gJ G [Dr bl left] w0->ak G (.sl 11 (l.map au.dat)) v->dH l < n->0<=KY->KY<=1000->left<=1000->-1000000000000<=left - (dH l:Int) ->
 Calls prog 95 #[v,vi KY,(aK bl 0)] w0 (fV w0 G [Dr bl left] (SmQ bl left (dH l)))
theorem akE (l m:List aV):iK (l++m)=iK l+iK m:=by simp [iK,LW]
theorem akA (l m:List aX):ji (l++m)=ji l+ji m:=by simp [ji,LW]
theorem aBi {l:List au} {k:Nat} (h:k < l.length):dH (l.take (k+1))=dH (l.take k)+(1+dD l[k].dat):=by rw [kG h,aBh];simp [dH,fu]
theorem aBj {l:List aV} {k:Nat} (h:k < l.length):iK (l.take (k+1))=iK (l.take k)+(1+dD l[k].dat):=by rw [kG h,akE];simp [iK,fu]
theorem aBg {l:List aX} {k:Nat} (h:k < l.length):ji (l.take (k+1))=ji (l.take k)+(1+dD l[k].dat):=by rw [kG h,akA];simp [ji,fu]
theorem akD (l:List au) (k:Nat):dH (l.take k)<=dH l:=aas (List.take_sublist k l)
theorem akG (l:List aV) (k:Nat):iK (l.take k)<=iK l:=by
 have:=akE (l.take k) (l.drop k);rw [List.take_append_drop] at this;omega
theorem akC (l:List aX) (k:Nat):ji (l.take k)<=ji l:=by
 have:=akA (l.take k) (l.drop k);rw [List.take_append_drop] at this;omega
set_option maxHeartbeats 4000000 in
theorem aAi {n:Nat} (ih:UO n) (hn:n<=4294967296):UO (n+1):=by
 intro G w0 l v KY left bl hO hv hz hl0 hl1 hf1 hf0;obtain ⟨A,c,rfl,hc1,hc2,hg⟩:=hv.slice;rw [bS] at *;have hll:=Mh l;refine jA (N:=133) (T:=[(0,_),(1,_),(2,_)]) func95 M ntmps95 M M hO ?_;intro a H;refine kP H (SR fun _ K1=>aj K1 M (SQ fun _ K2=>SR fun _ K3=>aj K3 M (SB ?_)));clear H K1 K3;intro a H;skip;refine eX (ι:=Nat × Int × GH) (Tc:=[(0,_),(1,_),(2,_)]) (Lc:=[]) (fun gh=>[(7,vi gh.1)]) (fun gh=>[Dr bl gh.2.1]) (fun gh=>gh.2.2) (fun gh=>gh.1<=l.length∧left - (dH (l.take gh.1):Int)<=gh.2.1∧gh.2.1<=left∧(∀ b o,G b=some o->gh.2.2 b=some o)) (fun gh=>l.length - gh.1) ((0,left,G)) (by exact H.sub ⟨M,M,M,M,aB⟩) ?_ ?_
 ·exact ⟨O,by show left - ((0:Nat):Int)<=left;omega,Int.le_refl _,fun _ _ h=>h⟩
 clear H;rintro ⟨k,lf,g⟩ a w hI H;dsimp only at hI H;obtain ⟨hk,hlo,hhi,hgm⟩:=hI;have hzk:=akD l k;dsimp only [lca,bM] at H;refine kP H (SQ fun _ K4=>SR fun _ K5=>Rm M (Rm M (Rl jq M (Rc M (Kz K5 (Cd M ?_ ?_)))))) <;> clear H K5
 ·intro fT a H
  try have qL:=dT fT
  have hk2:k < l.length:=by omega
  obtain ⟨b,o,pA,pn,pc,dA,dn,dc,yA,yn,yc,fA,fn,fc,rA,rn,rc,rfl,hrow,hhd,hfl,hrw⟩:=Kh hk2 hg;have hrn:=hrw.len;rw [bS] at hrn;subst hrn;have r3:aH g b (o+k*11+3)=some (.string l[k].text):=aC hgm (hrow 3 _ M);have r4:aH g b (o+k*11+4+0)=some (.slice pA pn pc):=aC hgm (hrow 4 _ M);have r9:aH g b (o+k*11+9)=some (.slice fA fn fc):=aC hgm (hrow 9 _ M);have Zw:aH g b (o+k*11+10)=some (.slice rA l[k].rows.length rc):=aC hgm (hrow 10 _ M);have hzi:=Ag l[k];have hzs:=aBi hk2;have hzt:=akD l (k+1);refine kP H (Kc K4 (SQ fun _ K6=>SB (SR fun _ K7=>Rm M (Rk M (Ro aF 0 M (Rs M (Rk M ?_)))))));clear H K4;intro a H;refine bC aF 0 (vs:=[_]) H wn M ?_;clear H;intro w H;refine K7 _ _ ?_;clear K7;refine kP H (SQ fun _ K8=>SR fun _ K9=>Rm M (Rk M (Ro aF 0 M (Rc M (Rm M (Sp 25 M ?_ ?_)))))) <;> clear H
  ·intro jH a H
   try have p25:=dT jH
   refine kH H (aL jH M (Pt jH M (Rm M (aP M M (aL M M (aL M M (Pt M M (Rm M (aP M M (aP M M (aL M M (Pt M M (Rm M (aP M M (aL M M (aL M M (Pt M M (Rm M (aP M M (aP M M (aL M M (aL M M ?_))))))))))))))))))))));clear H;intro a H;exact kH H (Pt M M (Kz K9 (Ct M M (SR fun _ aR=>aj aR M (LR results95 M fun H=>H.hp.gL ⟨_,_,M,M,O,O⟩)))))
  intro jH a H
  try have p25:=dF jH
  refine kH H (YM jH M (YC jH M (Pf jH M (Rm M (Sp 29 M ?_ ?_))))) <;> clear H
  ·intro iq a H
   try have p29:=dT iq
   refine kH H (aP iq M (aL iq M (aL iq M (Pt iq M (Rm M (aP M M (aP M M (aL M M (Pt M M (Rm M (aP M M (aL M M (aL M M (Pt M M (Rm M (aP M M (aP M M (aL M M (aL M M (Pt M M (Kz K9 ?_)))))))))))))))))))));clear H K9;intro a H;refine Cc H M M ?_;exact kP H (SR fun _ bq=>aj bq M (LR results95 M fun H=>H.hp.gL ⟨_,_,M,M,O,O⟩))
  intro iq a H
  try have p29:=dF iq
  refine kH H (YM iq M (YM iq M (YI jq gI iq M M (YF vY iq M (YR iP iq M (by assumption) ?_)))));clear H;intro a H;refine FM iY H (wg H M M iq) M M ?_;clear H;intro a H;refine kH H (YC iq M (Pf iq M (Rm M (Sp 38 M ?_ ?_)))) <;> clear H
  ·intro fU a H
   try have p38:=dT fU
   exact kH H (aP fU M (aP fU M (aL fU M (Pt fU M (Rm M (aP M M (aL M M (aL M M (Pt M M (Rm M (aP M M (aP M M (aL M M (aL M M (Pt M M (Kz K9 (Ct M M (SR fun _ bP=>aj bP M (LR results95 M fun H=>H.hp.gL ⟨_,_,M,M,O,O⟩)))))))))))))))))))
  intro fU a H
  try have p38:=dF fU
  refine kH H (YM fU M (YM fU M (YI jq gI fU M M (YF wN fU M (YF yR fU M (YR tO fU M (by assumption) ?_))))));clear H;intro a H;refine kH H (YL gV fU M (YC fU M (Pf fU M (Rm M (Sp 48 M ?_ ?_))))) <;> clear H
  ·intro h48 a H
   try have p48:=dT h48
   exact kH H (aP h48 M (aL h48 M (aL h48 M (Pt h48 M (Rm M (aP M M (aP M M (aL M M (aL M M (Pt M M (Kz K9 (Ct M M (SR fun _ bU=>aj bU M (LR results95 M fun H=>H.hp.gL ⟨_,_,M,M,O,O⟩))))))))))))))
  intro h48 a H
  try have p48:=dF h48
  refine kH H (YM h48 M (YM h48 M (YI jq gI h48 M M (YF uw h48 M (YR uL h48 M (by assumption) ?_)))));clear H;intro a H;refine kH H (YL nO h48 M (YC h48 M (Pf h48 M (Rm M (Sp 57 M ?_ ?_))))) <;> clear H
  ·intro h57 a H
   try have p57:=dT h57
   exact kH H (aP h57 M (aP h57 M (aL h57 M (aL h57 M (Pt h57 M (Kz K9 (Ct M M (SR fun _ dh=>aj dh M (LR results95 M fun H=>H.hp.gL ⟨_,_,M,M,O,O⟩)))))))))
  intro h57 a H
  try have p57:=dF h57
  refine kH H (YM h57 M (YM h57 M (YI jq gI h57 M M (YF zL h57 M (YR kW h57 M (by assumption) ?_)))));clear H;intro a H;refine kH H (YM h57 M ?_);clear H;intro a H;refine zo _ H (wg H M M h57) M M M O O M ?_;clear H;intro a H;refine kH H (YM h57 M ?_);clear H;intro a H;refine gM WJ (Li:=[]) (L:=[Dr bl _]) H (wg H M M h57) M (ih _ _ l[k].flow _ (KY - 1) _ bl (Hp.owns (Li:=[]) H.hp) (hfl.mono hgm) O O O O O) M ?_;clear H;rintro v66 G66 L66 a w ⟨b66,lf66,rfl,rfl,aCd,aCb⟩ agI H;dsimp only [List.nil_append] at H;replace Zw:=aC agI Zw;have aub:=fun b o h=>agI b o (hgm b o h);refine kH H (YN h57 M (Pf h57 M (Kz K9 (Cd M ?_ ?_)))) <;> clear H K9
  ·intro h68 a H
   try have p68:=dT h68
   exact kP H (SR fun _ dZ=>aj dZ M (LR results95 M fun H=>H.hp.gL ⟨_,_,M,M,O,O⟩))
  intro h68 a H
  try have p68:=dF h68
  refine kP H (Kc K8 (SR fun _ eu=>aj eu M (SB ?_)));clear H K8 eu;intro a H;skip;refine eX (ι:=Nat × Int × GH) (Tc:=[(0,_),(1,_),(2,_),(7,_)]) (Lc:=[]) (fun gh=>[(8,vi gh.1)]) (fun gh=>[Dr bl gh.2.1]) (fun gh=>gh.2.2) (fun gh=>gh.1<=l[k].rows.length∧lf66 - (iK (l[k].rows.take gh.1):Int)<=gh.2.1∧gh.2.1<=lf66∧(∀ b o,G b=some o->gh.2.2 b=some o)∧aH gh.2.2 b (o+k*11+10)=some (.slice rA l[k].rows.length rc)) (fun gh=>l[k].rows.length - gh.1) ((0,lf66,G66)) (by exact H.sub ⟨M,M,M,M,M,aB⟩) ?_ ?_
  ·exact ⟨O,by show lf66 - ((0:Nat):Int)<=lf66;omega,Int.le_refl _,aub,Zw⟩
  clear H;rintro ⟨j,lf2,g2⟩ a w hI H;dsimp only at hI H;obtain ⟨hj,hlo2,hhi2,lQ,q10⟩:=hI;have aCs:=akG l[k].rows j;dsimp only [lca,bM] at H;refine kP H (SQ fun _ dS=>SR fun _ eY=>Rm M (Rm M (Rm M (Ri jq gI M M (Rf uw M (Rg uL M (by assumption) ?_))))));clear H;intro a H;refine kH H (Rl nO M (Rc M (Kz eY (Cd M ?_ ?_)))) <;> clear H eY
  ·intro DK a H
   try have Zp:=dT DK
   have hj2:j < l[k].rows.length:=by omega
   obtain ⟨b2,o2,uA,un,uc,eA,en,ec,zA,zn,zc,cA,cn,cc,rfl,hrow2,Im,hcl⟩:=Tq hj2 (hrw.mono lQ).at_;have hcn:=hcl.len;rw [bS] at hcn;subst hcn;have t5:aH g2 b2 (o2+j*6+5)=some (.slice cA l[k].rows[j].cells.length cc):=hrow2 5 _ M;have aCq:=Ew l[k].rows[j];have aCu:=aBj hj2;have aCw:=akG l[k].rows (j+1);refine kP H (Kc dS (SQ fun _ gU=>SB (SQ fun _ fJ=>SR fun _ iD=>Rm M (Rm M (Ri jq gI M M (Rf uw M (Rg uL M (by assumption) ?_)))))));clear H dS;intro a H;refine kH H (Rm M (Ri nO jK M M (Rf zM M (Rg Ad M (by assumption) ?_))));clear H;intro a H;refine kH H (Rl qh M (Rc M (Kz iD (Cd M ?_ ?_)))) <;> clear H iD
   ·intro AL a H
    try have p89:=dT AL
    exact kP H (SR fun _ jL=>aj jL M (LR results95 M fun H=>H.hp.gL ⟨_,_,M,M,O,O⟩))
   intro AL a H
   try have p89:=dF AL
   refine kP H (Kc fJ (SR fun _ mM=>aj mM M (SB ?_)));clear H fJ mM;intro a H;skip;refine eX (ι:=Nat × Int × GH) (Tc:=[(0,_),(1,_),(2,_),(7,_),(8,_)]) (Lc:=[]) (fun gh=>[(9,vi gh.1)]) (fun gh=>[Dr bl gh.2.1]) (fun gh=>gh.2.2) (fun gh=>gh.1<=l[k].rows[j].cells.length∧lf2 - (ji (l[k].rows[j].cells.take gh.1):Int)<=gh.2.1∧gh.2.1<=lf2∧(∀ b o,G b=some o->gh.2.2 b=some o)∧aH gh.2.2 b (o+k*11+10)=some (.slice (some ⟨b2,o2,none⟩) l[k].rows.length rc)∧aH gh.2.2 b2 (o2+j*6+5)=some (.slice cA l[k].rows[j].cells.length cc)∧(∀ b o,g2 b=some o->gh.2.2 b=some o)) (fun gh=>l[k].rows[j].cells.length - gh.1) ((0,lf2,g2)) (by exact H.sub ⟨M,M,M,M,M,M,aB⟩) ?_ ?_
   ·exact ⟨O,by show lf2 - ((0:Nat):Int)<=lf2;omega,Int.le_refl _,lQ,q10,t5,fun _ _ h=>h⟩
   clear H;rintro ⟨m,lf3,g3⟩ a w hI H;dsimp only at hI H;obtain ⟨hm,hlo3,hhi3,xW,s10,s5,agA⟩:=hI;have aCt:=akC l[k].rows[j].cells m;dsimp only [lca,bM] at H;refine kP H (SQ fun _ mH=>SR fun _ kX=>Rm M (Rm M (Rm M (Ri jq gI M M (Rf uw M (Rg uL M (by assumption) ?_))))));clear H;intro a H;refine kH H (Rm M (Ri nO jK M M (Rf zM M (Rg Ad M (by assumption) ?_))));clear H;intro a H;refine kH H (Rl qh M (Rc M (Kz kX (Cd M ?_ ?_)))) <;> clear H kX
   ·intro Xg a H
    try have axn:=dT Xg
    have hm2:m < l[k].rows[j].cells.length:=by omega
    obtain ⟨b3,o3,x1,x2,x3,x4,x5,x6,x7,x8,x9,gA,gn,gc,rfl,hrow3,hch,hcf⟩:=Qy hm2 (hcl.mono agA).at_;have u6:aH g3 b3 (o3+m*7+6)=some (.slice gA gn gc):=hrow3 6 _ M;have aCr:=Ev l[k].rows[j].cells[m];have aCv:=aBg hm2;have aCx:=akC l[k].rows[j].cells (m+1);refine kP H (Kc mH (SQ fun _ ou=>SB (SR fun _ ow=>Rm M (Rk M (Ro aF 0 M (Rs M (Rk M ?_)))))));clear H mH;intro a H;refine bC aF 0 (vs:=[_]) H wn M ?_;clear H;intro w H;refine ow _ _ ?_;clear ow;refine kP H (SR fun _ kY=>Rm M (Rk M (Ro aF 0 M (Rc M (Rm M (Sp 113 M ?_ ?_)))))) <;> clear H
    ·intro nK a H
     try have axq:=dT nK
     exact kH H (aP nK M (aP nK M (aP nK M (aP nK M (aP nK M (aP nK M (Pt nK M (Kz kY (Ct M M (SR fun _ qj=>aj qj M (LR results95 M fun H=>H.hp.gL ⟨_,_,M,M,O,O⟩)))))))))))
    intro nK a H
    try have axq:=dF nK
    refine kH H (YM nK M (YM nK M (YI jq gI nK M M (YF uw nK M (YR uL nK M (by assumption) ?_)))));clear H;intro a H;refine kH H (YM nK M (YI nO jK nK M M (YF zM nK M (YR Ad nK M (by assumption) ?_))));clear H;intro a H;refine kH H (YM nK M (YI qh kE nK M M (YF GZ nK M (YR kW nK M (by assumption) ?_))));clear H;intro a H;refine kH H (YM nK M ?_);clear H;intro a H;refine zo _ H (wg H M M nK) M M M O O M ?_;clear H;intro a H;refine kH H (YM nK M ?_);clear H;intro a H;refine gM WJ (Li:=[]) (L:=[Dr bl _]) H (wg H M M nK) M (ih _ _ l[k].rows[j].cells[m].flow _ (KY - 1) _ bl (Hp.owns (Li:=[]) H.hp) hcf O O O O O) M ?_;clear H;rintro v130 akN aBy a w ⟨aBD,avY,rfl,rfl,aCc,aCa⟩ RF H;dsimp only [List.nil_append] at H;refine kH H (YN nK M (Pf nK M (Kz kY (Cd M ?_ ?_)))) <;> clear H kY
    ·intro EZ a H
     try have aiE:=dT EZ
     exact kP H (SR fun _ qB=>aj qB M (LR results95 M fun H=>H.hp.gL ⟨_,_,M,M,O,O⟩))
    intro EZ a H
    try have aiE:=dF EZ
    refine kP H (Kc ou (SC (Rm M (Rd M (Ra M ?_)))));clear H ou;intro a H;refine aG ?_;refine dY ((m+1,avY,akN)) (by exact H.sub ⟨M,M,M,M,M,M,aB⟩) ?_
    (try dsimp only);exact ⟨O,O,O,fun b o h=>RF b o (xW b o h),aC RF s10,aC RF s5,fun b o h=>RF b o (agA b o h)⟩
   intro Xg a H
   try have axn:=dF Xg
   refine dQ ?_;refine gU _ _ ?_;clear gU;refine kP H (SC (Rm M (Rd M (Ra M ?_))));clear H;intro a H;refine aG ?_;refine dY ((j+1,lf3,g3)) (by exact H.sub ⟨M,M,M,M,M,aB⟩) ?_
   (try dsimp only);exact ⟨O,O,O,xW,s10⟩
  intro DK a H
  try have Zp:=dF DK
  refine dQ ?_;refine K6 _ _ ?_;clear K6;refine kP H (SC (Rm M (Rd M (Ra M ?_))));clear H;intro a H;refine aG ?_;refine dY ((k+1,lf2,g2)) (by exact H.sub ⟨M,M,M,M,aB⟩) ?_
  (try dsimp only);exact ⟨O,O,O,lQ⟩
 intro fT a H
 try have qL:=dF fT
 refine dQ ?_;refine K2 _ _ ?_;clear K2;exact kP H (SR fun _ qO=>aj qO M (LR results95 M fun H=>H.hp.gL ⟨_,_,M,M,O,O⟩))
theorem ajz:∀ n:Nat,n<=4294967296->UO n
 | 0,_=>fun _ _ _ _ _ _ _ _ _ hz=>absurd hz (Nat.not_lt_zero _)
 | n+1,h=>aAi (ajz n O) O
theorem aAg (G:GH) (w0:World) (hG:Hold G w0) (D:kN) (d:gu) (hR:oL G D d) (hz:Aj d) :
  Calls prog 45 #[D.val] w0 (bG w0 G fun u G'=>∃ b,u=.bool b∧(b=true->iT d=0)):=by
 have Ow:=hz.fl;refine eN [(0,_)] func45 M ntmps45 M M hG ?_;intro a H;refine dz (fun _ K1=>?_);refine dR (cs:=[_,_,_,_,_,_,_,_,_,_,_]) H wn M M M ?_;clear H;intro b1 a w hb1 H;refine kH H (aj K1 M (SQ fun _ K2=>?_));clear H K1;intro a H;obtain ⟨Ga,hma,hb1',H⟩:=H.fF;have hga:=fun j v hj=>lY hb1' 0 D.cells M j v hj;have hgs:=fun j v hj=>lY hb1' 7 [aW D.s1,aW D.s2,aW D.s3,aW D.s4] M j v hj
 have hgr:aH Ga b1 6=some (aW D.r):=by unfold aH;rw [hb1'];rfl
 have hgf:aH Ga b1 0=some (aW D.f):=by unfold aH;rw [hb1'];rfl
 replace hR:=hR.mono hma;refine nU ?_;refine dJ aF H wn M ?_;clear H;intro b3 a w hb3 H;refine bC aF 0 (vs:=[_]) H wn M ?_;clear H;intro w H;refine kH H (Kn K2 (SR fun _ K3=>Rf J8 M ?_));clear H K2;intro a H;refine aU vD (cs:=[aW D.s1,aW D.s2,aW D.s3,aW D.s4]) H wn M M (fun j v hj=>H.hp.aH (hgs j v hj)) M ?_;clear H;intro a H;refine dJ vD H wn M ?_;clear H;intro b4 a w hb4 H;refine bC vD 0 (vs:=[_,_,_,_]) H wn M ?_;clear H;intro w H;refine K3 _ _ ?_;clear K3;refine kP H (SR fun _ K4=>bQ Ny C9 0 M M (Rl vE M (Rc M (Rm M (Sp 11 M ?_ ?_))))) <;> clear H
 ·intro h11 a H
  try have sD:=dT h11
  refine kH H (YF ES h11 M (YO rH 0 h11 M (YL lJ h11 M (YC h11 M (Pt h11 M (Rm M (Sp 17 M ?_ ?_))))))) <;> clear H
  ·intro cu a H
   try have lI:=dT cu
   refine kH H (YF ET cu M (YO Ac 0 cu M (YL tT cu M (YC cu M (Pt cu M (Rm M (Sp 23 M ?_ ?_))))))) <;> clear H
   ·intro h23 a H
    try have Br:=dT h23
    refine kH H (YF Nz h23 M (YO xq 0 h23 M (YL sH h23 M (YC h23 M (Pt h23 M (Rm M (Sp 29 M ?_ ?_))))))) <;> clear H
    ·intro iq a H
     try have p29:=dT iq
     refine kH H (YF Ck iq M (YR xk iq M (by assumption) ?_));clear H;intro a H;refine kH H (YL om iq M (YC iq M (Pt iq M (Rm M (Sp 35 M ?_ ?_))))) <;> clear H
     ·intro iw a H
      try have p35:=dT iw
      refine kH H (YF vX iw M (YR kW iw M (by assumption) ?_));clear H;intro a H;refine gM WJ (Li:=[_]) (L:=[Dr b3 150]) H (wg H M M iw) M (ajz 4294967296 (eG _) _ _ d.flow _ 12 150 b3 (Hp.owns (Li:=[_]) H.hp) hR.fl O Z Z Z O) M ?_;clear H;rintro v38 Uv L38 a w ⟨b38,lf38,rfl,rfl,-,-⟩ KF H;refine kH H (Pt iw M (Rm M (Sp 40 M ?_ ?_))) <;> clear H
      ·intro lC a H
       try have p40:=dT lC
       refine aU iB (cs:=D.cells) H (wg H M M lC) M M (fun j v hj=>H.hp.aH (aC KF (hga j v hj))) M ?_;clear H;intro a H;refine s_call apE H (wg H M M lC) M (amV _ _ H.ro D d (hR.mono KF) hz) M ?_;clear H;rintro v42 G42 a w rfl aCf H;exact kH H (YC lC M (Pt lC M (aj K4 M (LR results45 M fun H=>H.rt ⟨_,M,fun h=>by first|assumption|(simp_all;done)⟩))))
      intro lC a H
      try have p40:=dF lC
      exact kH H (aP lC M (Pf lC M (aj K4 M (LR results45 M fun H=>H.rt ⟨_,M,fun h=>by first|assumption|(simp_all;done)⟩))))
     intro iw a H
     try have p35:=dF iw
     exact kH H (aP iw M (Pf iw M (Rm M (aP M M (Pf M M (aj K4 M (LR results45 M fun H=>H.rt ⟨_,M,fun h=>by first|assumption|(simp_all;done)⟩)))))))
    intro iq a H
    try have p29:=dF iq
    exact kH H (aL iq M (aL iq M (Pf iq M (Rm M (aP M M (Pf M M (Rm M (aP M M (Pf M M (aj K4 M (LR results45 M fun H=>H.rt ⟨_,M,fun h=>by first|assumption|(simp_all;done)⟩)))))))))))
   intro h23 a H
   try have Br:=dF h23
   exact kH H (aL h23 M (aL h23 M (Pf h23 M (Rm M (aL M M (aL M M (Pf M M (Rm M (aP M M (Pf M M (Rm M (aP M M (Pf M M (aj K4 M (LR results45 M fun H=>H.rt ⟨_,M,fun h=>by first|assumption|(simp_all;done)⟩)))))))))))))))
  intro cu a H
  try have lI:=dF cu
  exact kH H (aL cu M (aL cu M (Pf cu M (Rm M (aL M M (aL M M (Pf M M (Rm M (aL M M (aL M M (Pf M M (Rm M (aP M M (Pf M M (Rm M (aP M M (Pf M M (aj K4 M (LR results45 M fun H=>H.rt ⟨_,M,fun h=>by first|assumption|(simp_all;done)⟩)))))))))))))))))))
 intro h11 a H
 try have sD:=dF h11
 exact kH H (aL h11 M (aL h11 M (Pf h11 M (Rm M (aL M M (aL M M (Pf M M (Rm M (aL M M (aL M M (Pf M M (Rm M (aL M M (aL M M (Pf M M (Rm M (aP M M (Pf M M (Rm M (aP M M (Pf M M (aj K4 M (LR results45 M fun H=>H.rt ⟨_,M,fun h=>by first|assumption|(simp_all;done)⟩)))))))))))))))))))))))
theorem ZW:qQ prog 68 [(0,1),(1,1),(2,1),(3,1),(4,5),(9,1),(10,1)] [.int .i64 0,.int .i64 0,.int .i64 0,.string ⟨#[]⟩,.slice none 0 0,.int .i64 0,.int .i64 0,.slice none 0 0,.slice none 0 0,.slice none 0 0,.slice none 0 0]:=⟨V,V⟩
theorem aAt:qQ prog 159 [(0,1),(1,1)] [.int .i64 0,.int .i64 0]:=⟨V,V⟩
theorem aAr:qQ prog 102 [(0,1),(1,1),(2,1)] [.int .i64 0,.string ⟨#[]⟩,.int .i64 0]:=⟨V,V⟩
theorem afb:aS 44:=aT func44 M
theorem aoI:aS 14:=aT func14 M
theorem aoO:aS 15:=aT func15 M
theorem aqn:aS 45:=aT func45 M
def Af (k:Int) (t:ByteArray) (i:Int) (ds:List gG):au:=.mk k 0 0 t ⟨[],⟨i,0,ds,[]⟩⟩ [] []
def wM:gu:=⟨[Af 1 ⟨#[97,98]⟩ 0 [],Af 1 ⟨#[99,100]⟩ 3 [],Af 1 ⟨#[101]⟩ 0 [⟨5,0⟩],Af 2 ⟨#[]⟩ 0 []],BG,[⟨3,⟨#[65,110]⟩,0⟩,⟨5,⟨#[66,111]⟩,0⟩],⟨[],[],[],[]⟩⟩
theorem o24:(nD (jJ (fun _=>false) (fun _=>true) wM)).flow.length=2:=by kernel_rfl
theorem axc:((nD (jJ (fun _=>false) (fun _=>true) wM)).flow.map au.text).head?=some ⟨#[97,98,101]⟩:=by kernel_rfl
theorem axb:(nD (jJ (fun _=>false) (fun _=>true) wM)).revs.length=0:=by kernel_rfl
theorem f24:(nD (jJ (fun _=>true) (fun _=>false) wM)).flow.length=2:=by kernel_rfl
theorem arD:((nD (jJ (fun _=>true) (fun _=>false) wM)).flow.map au.text).head?=some ⟨#[97,98,99,100]⟩:=by kernel_rfl
theorem arC:(nD (jJ (fun _=>true) (fun _=>false) wM)).revs.length=0:=by kernel_rfl
theorem z24:dH wM.flow<=1000:=by decide
theorem c24:iT wM=0:=by kernel_rfl
theorem s24:yF 536870912 wM:=by
 have h:=z24
 have h0:mX BG<=1000:=by decide
 refine ⟨⟨O,by show mX BG<=_;omega,Z,fun x hx=>?_,Z,⟨fun _ h=>(by cases h),Z,fun _ h=>(by cases h),Z,fun _ h=>(by cases h),Z,fun _ h=>(by cases h),fun _ h=>(by cases h),fun _ h=>(by cases h)⟩⟩,O,by show mX BG<=_;omega⟩
 simp only [wM,gK,List.not_mem_nil,or_false] at hx
 rcases hx with rfl|rfl <;> decide
theorem atY {F:List au} {t:ByteArray} (h:(F.map au.text).head?=some t) (h0:0 < F.length):F[0].text=t:=by
 cases F with
 | nil=>exact absurd h0 Z
 | cons x F=>simpa using h
set_option maxHeartbeats 2000000 in
theorem afj (G:GH) (w0:World) (hG:Hold G w0) :
  Calls prog 44 #[] w0 (bG w0 G fun u G'=>∃ D:kN,u=D.val∧oL G' D wM):=by
 refine eN [] func44 M ntmps44 M M hG ?_;intro a H;refine dz (fun _ K1=>?_);refine dJ iB H wn M ?_;clear H;intro b0 a w hb0 H;refine K1 _ _ ?_;clear K1;refine dz (fun _ K2=>?_);refine jU ZW [_,_,_,_,_,_,_,_,_,_,_] H wn M M M M ?_;clear H;intro a H;refine jU ZU [_,_,_,_] H wn M M M M ?_;clear H;intro a H;refine jU LV [_,_,_,_,_] H wn M M M M ?_;clear H;intro a H;refine jU ZW [_,_,_,_,_,_,_,_,_,_,_] H wn M M M M ?_;clear H;intro a H;refine jU aAt [_,_] H wn M M M M ?_;clear H;intro a H;refine iC oK oJ [_,_] [_,_] H wn M M M M M (by intro i q h;match i,h with|0,h=>exact h|n+1,h=>simp at h) M M ?_;clear H;intro b6 a w hb6 H;refine jU ZU [_,_,_,_] H wn M M M M ?_;clear H;intro a H;refine jU LV [_,_,_,_,_] H wn M M M M ?_;clear H;intro a H;(iterate 2 refine jU ZW [_,_,_,_,_,_,_,_,_,_,_] H wn M M M M ?_;clear H;intro a H);refine iC jq gI [_,_,_,_,_,_,_,_,_,_,_,_,_,_,_,_,_,_,_,_,_,_,_,_,_,_,_,_,_,_,_,_,_,_,_,_,_,_,_,_,_,_,_,_] [_,_,_,_,_,_,_,_,_,_,_,_,_,_,_,_,_,_,_,_,_,_,_,_,_,_,_,_,_,_,_,_,_,_,_,_,_,_,_,_,_,_,_,_] H wn M M M M M (by intro i q h;match i,h with|0,h=>exact h|1,h=>exact h|2,h=>exact h|3,h=>exact h|n+4,h=>simp at h) M M ?_;clear H;intro b11 a w Kt H;(iterate 2 refine jU aAr [_,_,_] H wn M M M M ?_;clear H;intro a H);refine iC om oh [_,_,_,_,_,_] [_,_,_,_,_,_] H wn M M M M M (by intro i q h;match i,h with|0,h=>exact h|1,h=>exact h|n+2,h=>simp at h) M M ?_;clear H;intro b14 a w agl H;refine jU ZV [_,_,_,_,_,_,_,_,_,_,_] H wn M M M M ?_;clear H;intro a H;refine bC iB 3 (vs:=[_,_,_,_,_,_,_,_,_,_,_]) H wn M ?_;clear H;intro w H;refine K2 _ _ ?_;clear K2;refine fE ?_;refine (leave1 H results44 (.cons (ny iB (cs:=[_,_,_,_,_,_,_,_,_,_,_]) H M M (H.hp.cB 3 M M)) .nil) ?_).1;have H:=H.fH (Pl:=[_,_,_,_]) (eD:=[_,_,_]) [2,1,0] Z M;obtain ⟨G1,hm1,NP,H⟩:=H.fF;obtain ⟨G2,hm2,Cr,H⟩:=H.fF;obtain ⟨G3,KD,XB,H⟩:=H.fF;have nl:∀ {sz:Nat},ak G2 (.sl sz []) (.slice none 0 0):=fun {sz}=>ak.qK M Z;have II:∀ {sz:Nat},ak G3 (.sl sz []) (.slice none 0 0):=fun {sz}=>ak.qK M Z;have d1:ak G2 (.sl 2 ([(⟨5,0⟩:gG)].map gG.dat)) (.slice (some ⟨b6,0,none⟩) 1 1):=ak.wz (n:=1) (cap:=1) (hm2 _ _ NP) M (eG _) (show 1<=maxLen by decide) rfl (dx.nil.snoc (aep G2 ⟨5,0⟩) rfl);have r1:bB G2 (Af 1 ⟨#[97,98]⟩ 0 []).dat _:=bB.mkItem (x:=Af 1 ⟨#[97,98]⟩ 0 []) ⟨nl,nl,nl⟩ nl nl;have r2:bB G2 (Af 1 ⟨#[99,100]⟩ 3 []).dat _:=bB.mkItem (x:=Af 1 ⟨#[99,100]⟩ 3 []) ⟨nl,nl,nl⟩ nl nl;have r3:bB G2 (Af 1 ⟨#[101]⟩ 0 [⟨5,0⟩]).dat _:=bB.mkItem (x:=Af 1 ⟨#[101]⟩ 0 [⟨5,0⟩]) ⟨nl,d1,nl⟩ nl nl;have r4:bB G2 (Af 2 ⟨#[]⟩ 0 []).dat _:=bB.mkItem (x:=Af 2 ⟨#[]⟩ 0 []) ⟨nl,nl,nl⟩ nl nl;have fK:dx G2 11 (wM.flow.map au.dat) _:=(((dx.nil.snoc r1 M).snoc r2 M).snoc r3 M).snoc r4 M;have hcr:dx G3 3 (wM.revs.map bV.dat) _:=(dx.nil.snoc (OM G3 ⟨3,⟨#[65,110]⟩,0⟩) M).snoc (OM G3 ⟨5,⟨#[66,111]⟩,0⟩) M;exact H.rt ⟨⟨(some ⟨b11,0,none⟩,4,4),(none,0,0),(none,0,0),(none,0,0),(some ⟨b14,0,none⟩,2,2),(none,0,0),(none,0,0),(none,0,0),(none,0,0),0,0⟩,M,⟨(ak.wz (n:=4) (cap:=4) Cr M (eG _) (show 4<=maxLen by decide) rfl fK).mono KD,⟨II,II,II⟩,rfl,rfl,ak.wz (n:=2) (cap:=2) XB M (eG _) (show 2<=maxLen by decide) rfl hcr,⟨II,II,II,II⟩⟩⟩
theorem aew {G:GH} {E:kN} {e:gu} {t:ByteArray} (hE:oL G E e) (h2:e.flow.length=2) (ht:(e.flow.map au.text).head?=some t) (hr:e.revs.length=0) :
  ∃ b o fc rA rc,E.f=(some ⟨b,o,none⟩,2,fc)∧E.r=(rA,0,rc)∧aH G b (o+0*11+3)=some (.string t):=by
 obtain ⟨⟨fA,fn,fc⟩,_,_,_,⟨rA,rn,rc⟩,_,_,_,_,_,_⟩:=E;have hf:=hE.fl;have hv:=hE.rv;dsimp only [aW] at hf hv;have n1:=hf.len;have n2:=hv.len;rw [bS] at n1 n2;obtain ⟨A,c,e4,-,-,hg⟩:=hf.slice;rw [bS] at e4
 injection e4 with e4 e5 e6
 subst e4;obtain ⟨b,o,_,_,_,_,_,_,_,_,_,_,_,_,_,_,_,rfl,hrow,-⟩:=Kh (show 0 < e.flow.length by omega) hg;have h3:=hrow 3 _ M;rw [atY ht] at h3;exact ⟨b,o,fc,rA,rc,by rw [n1,h2],by rw [n2,hr],h3⟩
theorem MO {p:Prop} (h:p:=by
 first
  | exact H.rt M
  | (exfalso;simp_all;done)
  | (exfalso;simp_all;omega)):p:=h
set_option maxHeartbeats 1000000 in
theorem YQ (G:GH) (w0:World) (hG:Hold G w0):Calls prog 12 #[] w0 (bG w0 G fun u G'=>u=.bool true):=by
 refine eN [] func12 M ntmps12 M M hG ?_;intro a H;refine kP H (SR fun _ K1=>aj K1 M (SR fun _ K2=>?_));clear H K1;intro a H;refine s_call afb H wn M (afj _ _ H.ro) M ?_;clear H;rintro v3 G3 a w ⟨D3,rfl,hD3⟩ KD H;refine s_call aoI H wn M (ayl _ _ H.ro D3 wM hD3 s24 c24) M ?_;clear H;rintro v4 G4 a w ⟨E,rfl,hE⟩ NW H;obtain ⟨b4,o4,fc,rA,rc,e1,e2,Bg⟩:=aew hE o24 axc axb;obtain ⟨_,_,_,_,_,_,_,_,_,_,_⟩:=E;dsimp only at e1 e2;subst e1 e2
 simp only [kN.val,kN.cells,aW] at H
 refine dJ iB H wn M ?_;clear H;intro b1 a w hb1 H;refine bC iB 0 (vs:=[_,_,_,_,_,_,_,_,_,_,_]) H wn M ?_;clear H;intro w H;refine K2 _ _ ?_;clear K2;refine dz (fun _ K3=>?_);refine s_call afb H wn M (afj _ _ H.ro) M ?_;clear H;rintro v5 G5 a w ⟨D5,rfl,hD5⟩ Fg H;refine s_call aoO H wn M (ayk _ _ H.ro D5 wM hD5 s24 c24) M ?_;clear H;rintro v6 G6 a w ⟨E6,rfl,hE6⟩ H9 H;obtain ⟨b6,o6,gc,sA,sc,e3,e4,ht6⟩:=aew hE6 f24 arD arC;obtain ⟨_,_,_,_,_,_,_,_,_,_,_⟩:=E6;dsimp only at e3 e4;subst e3 e4
 simp only [kN.val,kN.cells,aW] at H
 replace Bg:=aC (fun b o h=>H9 b o (Fg b o h)) Bg;refine dJ iB H wn M ?_;clear H;intro b2 a w hb2 H;refine bC iB 0 (vs:=[_,_,_,_,_,_,_,_,_,_,_]) H wn M ?_;clear H;intro w H;refine K3 _ _ ?_;clear K3;refine kP H (SR fun _ K4=>bQ vX kW 1 M M (Rl jq M (Rc M (Rm M (Sp 11 M ?_ ?_))))) <;> clear H
 ·intro h11 a H
  try have sD:=dT h11
  refine kH H (YF vX h11 M (YO kW 1 h11 M ?_));clear H;intro a H;refine zZ jq gI 0 H (wg H M M h11) M M M Z M ?_;clear H;intro a H;refine kH H (YF vY h11 M (YR iP h11 M Bg ?_));clear H;intro a H;refine CV H (wg H M M h11) M M M ?_;clear H;intro a H;refine kH H (Pt h11 M (Rm M (Sp 19 M ?_ ?_))) <;> clear H
  ·intro h19 a H
   try have rF:=dT h19
   refine kH H (YF vX h19 M (YO kW 0 h19 M (YL jq h19 M (YC h19 M (Pt h19 M (Rm M (Sp 25 M ?_ ?_))))))) <;> clear H
   ·intro jH a H
    try have p25:=dT jH
    refine kH H (YF vX jH M (YO kW 0 jH M ?_));clear H;intro a H;refine zZ jq gI 0 H (wg H M M jH) M M M Z M ?_;clear H;intro a H;refine kH H (YF vY jH M (YR iP jH M ht6 ?_));clear H;intro a H;refine CV H (wg H M M jH) M M M ?_;clear H;intro a H;refine kH H (Pt jH M (Rm M (Sp 33 M ?_ ?_))) <;> clear H
    ·intro wh a H
     try have p33:=dT wh
     refine kH H (YF Ck wh M (YO xk 1 wh M (YL om wh M (YF Ck wh M (YO xk 0 wh M (YL om wh M ?_))))));clear H;intro a H;refine OP _ H (wg H M M wh) M M M O O M ?_;clear H;intro a H;refine kH H (YC wh M (Pt wh M (aj K4 M ?_)));clear H K4;intro a H;refine lr H results12 M ?_
     exact MO
    intro wh a H
    try have p33:=dF wh
    refine kH H (aP wh M (aP wh M (aL wh M (Pf wh M (aj K4 M ?_)))));clear H K4;intro a H;refine lr H results12 M ?_
    exact MO
   intro jH a H
   try have p25:=dF jH
   refine kH H (aP jH M (aP jH M (Pf jH M (Rm M (aP M M (aP M M (aL M M (Pf M M (aj K4 M ?_)))))))));clear H K4;intro a H;refine lr H results12 M ?_
   exact MO
  intro h19 a H
  try have rF:=dF h19
  refine kH H (aL h19 M (aL h19 M (Pf h19 M (Rm M (aP M M (aP M M (Pf M M (Rm M (aP M M (aP M M (aL M M (Pf M M (aj K4 M ?_)))))))))))));clear H K4;intro a H;refine lr H results12 M ?_
  exact MO
 intro h11 a H
 try have sD:=dF h11
 refine kH H (aP h11 M (aP h11 M (Pf h11 M (Rm M (aL M M (aL M M (Pf M M (Rm M (aP M M (aP M M (Pf M M (Rm M (aP M M (aP M M (aL M M (Pf M M (aj K4 M ?_)))))))))))))))));clear H K4;intro a H;refine lr H results12 M ?_
 exact MO
theorem Ve {p:Prop} (h:p:=by
 first
  | exact H.rt ⟨_,M,fun h=>⟨agn h,O,O⟩⟩
  | exact H.rt ⟨_,M,fun h=>by cases h⟩):p:=h
theorem aAh (G:GH) (w0:World) (hG:Hold G w0) (D:kN) (d:gu) (hR:oL G D d) (hz:Aj d) (A R:List Int) (va vr:ah) (hd:PL G A R va vr) :
  Calls prog 13 #[D.val,.agg #[va,vr]] w0 (bG w0 G fun u G'=>∃ b,u=.bool b∧(b=true->iT d=0∧A.length<=300∧R.length<=300)):=by
 obtain ⟨aA,ac,rfl,-,-,-⟩:=hd.ha.slice;obtain ⟨rA,rc,rfl,-,-,-⟩:=hd.hr.slice
 simp only [bS] at *
 refine eN [(0,_),(1,_)] func13 M ntmps13 M M hG ?_;intro a H;refine dz (fun _ K1=>?_);refine dR (cs:=[_,_,_,_,_,_,_,_,_,_,_]) H wn M M M ?_;clear H;intro b2 a w hb2 H;refine dR (cs:=[_,_]) H wn M M M ?_;clear H;intro b3 a w hb3 H;refine kH H (aj K1 M (SR fun _ K2=>bQ Cm mE 0 M M (Rl jZ M (Rc M (Rm M (Sp 9 M ?_ ?_)))))) <;> clear H K1
 ·intro h9 a H
  try have p9:=dT h9
  refine kH H (YF EU h9 M (YO mE 0 h9 M (YL jZ h9 M (YC h9 M (Pt h9 M (Rm M (Sp 15 M ?_ ?_))))))) <;> clear H
  ·intro jM a H
   try have tL:=dT jM
   refine aU iB (cs:=[_,_,_,_,_,_,_,_,_,_,_]) H (wg H M M jM) M M (H.hp.cB 1 M M) M ?_;clear H;intro a H;refine s_call aqn H (wg H M M jM) M (aAg _ _ H.ro D d hR hz) M ?_;clear H;rintro v17 BI a w ⟨b17,rfl,agn⟩ tH H;refine kH H (Pt jM M (aj K2 M ?_));clear H K2;intro a H;refine lr H results13 M ?_
   exact Ve
  intro jM a H
  try have tL:=dF jM
  refine kH H (aL jM M (Pf jM M (aj K2 M ?_)));clear H K2;intro a H;refine lr H results13 M ?_
  exact Ve
 intro h9 a H
 try have p9:=dF h9
 refine kH H (aL h9 M (aL h9 M (Pf h9 M (Rm M (aL M M (Pf M M (aj K2 M ?_)))))));clear H K2;intro a H;refine lr H results13 M ?_
 exact Ve
structure zB (but r:List Int):Prop where
 inc:r.Pairwise (· < ·)
 rng:∀ x∈r,1<=x∧x<=1000
 len:r.length<=40
 Ni:∀ x∈r,x∉but
theorem zB.nil (but:List Int):zB but []:=⟨List.Pairwise.nil,fun _ h=>(by cases h),Z,fun _ h=>(by cases h)⟩
theorem zB.snoc {but r:List Int} {n:Int} (h:zB but r) (h1:1<=n∧n<=1000) (h2:∀ x∈r,x < n) (h3:r.length < 40) (h4:n∉but):zB but (r++[n]):=by
 refine ⟨List.pairwise_append.2 ⟨h.inc,List.pairwise_singleton _ _,fun x hx y hy=>by rw [oC.1 hy];exact h2 x hx⟩,fun x hx=>?_,by rw [iW,List.length_singleton];omega,fun x hx=>?_⟩
 ·rcases jQ.1 hx with hx|hx
  ·exact h.rng x hx
  rw [oC.1 hx];exact h1
 rcases jQ.1 hx with hx|hx
 ·exact h.Ni x hx
 rw [oC.1 hx];exact h4
theorem awk {m:List Int} {n:Nat} (h:∀ x∈m,x < (n:Int)):∀ x∈m++[(n:Int)],x < ((n+1:Nat):Int):=fun x hx=>by
 rcases jQ.1 hx with hx|hx
 ·have:=h x hx;omega
 rw [oC.1 hx];omega
theorem air {b:List Int} {i:Nat} {n:Int} (hi:i < b.length) (h:∀ x∈b.take i,x≠n) (h2:b[i]≠n):∀ x∈b.take (i+1),x≠n:=fun x hx=>by
 rw [kG hi] at hx
 rcases jQ.1 hx with hx|hx
 ·exact h x hx
 rw [oC.1 hx];exact h2
def EI (G:GH) (L:OL) (B:Option Addr) (but:List Int):Prop:=∀ i (hi:i < but.length),∃ b o,B=some ⟨b,o,none⟩∧(aH G b (o+i*1)=some (vi but[i])∨∃ cs,(b,.cells cs 3 (0,0))∈L∧cs[o+i*1]?=some (vi but[i]))
theorem EI.of {G:GH} {L:OL} {but:List Int} {B:Option Addr} {n c:Nat} (hv:ak G (.sl 1 (but.map fun k=>[li k])) (.slice B n c)):EI G L B but:=fun i hi=>by
 obtain ⟨b,o,e,h⟩:=Fy (f:=fun q=>q) hv hi;exact ⟨b,o,e,.inl (by rw [Nat.mul_one];exact h)⟩
set_option maxHeartbeats 2000000 in
theorem Si (G:GH) (w0:World) (L:OL) (hO:gJ G L w0) (l but:List Int) (u:ah) (B:Option Addr) (e:Nat) (hu:ak G (.sl 1 (l.map fun k=>[li k])) u) (hv:EI G L B but) (hl:l.length<=4294967296) (hb:but.length<=4294967296) :
  Calls prog 26 #[u,.slice B but.length e] w0 (fV w0 G L fun u G' L'=>L'=L∧∃ r:List Int,zB but r∧ak G' (.sl 1 (r.map fun k=>[li k])) u):=by
 obtain ⟨A,c,rfl,ha1,ha2,-⟩:=hu.slice;rw [bS] at *
 have hml:4294967297<=maxLen:=by decide
 refine jA (N:=59) (T:=[(0,_),(1,_)]) func26 M ntmps26 M M hO ?_;intro a H;refine kP H (SR fun _ K1=>aj K1 M (SR fun _ K2=>aj K2 M (SQ fun _ K3=>SR fun _ K4=>aj K4 M (SB ?_))));clear H K1 K2 K4;intro a H;skip;refine eX (ι:=Nat × ah × List Int × List ah × OL) (Tc:=[(0,_),(1,_)]) (Lc:=[]) (fun gh=>[(5,gh.2.1),(6,vi gh.1)]) (fun gh=>[]++(L++gh.2.2.2.2)) (fun gh=>G) (fun gh=>1<=gh.1∧gh.1<=1001∧dw 3 1 gh.2.1 gh.2.2.1.length gh.2.2.2.1 gh.2.2.2.2∧dx G 1 (gh.2.2.1.map fun k=>[li k]) gh.2.2.2.1∧zB but gh.2.2.1∧∀ x∈gh.2.2.1,x < gh.1) (fun gh=>1001 - gh.1) ((1,.slice none 0 0,[],[],[])) (by exact (H.cast (ig _).symm).sub ⟨M,M,M,M,aB⟩) ?_ ?_
 ·exact ⟨O,O,dw.nil,dx.nil,zB.nil _,fun _ h=>(by cases h)⟩
 clear H;rintro ⟨n,v,m,xs,Lo⟩ a w hI H;dsimp only at hI H;obtain ⟨hn1,hn2,hrw,fK,hok,hlt⟩:=hI;have hol:=hok.len;obtain ⟨vA,vc,rfl,-,-⟩:=hrw.shape;dsimp only [lca,bM] at H;refine kP H (SQ fun _ K5=>SR fun _ K6=>Rm M (Rc M (Rm M (Sp 12 M ?_ ?_)))) <;> clear H
 ·intro h12 a H
  try have rE:=dT h12
  refine kH H (YM h12 M (YL jZ h12 M (YC h12 M (Pt h12 M (Kz K6 (Cd M ?_ ?_)))))) <;> clear H K6
  ·intro h16 a H
   try have p16:=dT h16
   refine kP H (Kc K5 (SQ fun _ K7=>SB (SR fun _ K8=>aj K8 M ?_)));clear H K5 K8;intro a H;refine uj (ι:=Bool) (Tc:=[(0,_),(1,_),(5,_),(6,_)]) (Lc:=[]) (fun gh=>[(7,.bool gh)]) (fun gh=>[]++(L++Lo)) (fun gh=>G) (fun gh=>True) (by exact H.sub ⟨M,M,M,M,aB⟩) ?_ ?_
   ·skip;refine kP H (SR fun _ K9=>aj K9 M (SB ?_));clear H K9;intro a H;skip;refine eX (ι:=Nat × Bool) (Tc:=[(0,_),(1,_),(5,_),(6,_)]) (Lc:=[]) (fun gh=>[(7,.bool gh.2),(8,vi gh.1)]) (fun gh=>[]++(L++Lo)) (fun gh=>G) (fun gh=>gh.1<=l.length) (fun gh=>l.length - gh.1) ((0,false)) (by exact H.sub ⟨M,M,M,M,M,M,aB⟩) ?_ ?_
    ·exact lg _
    clear H;rintro ⟨i,is⟩ a w hI H;dsimp only at hI H;have hi:=hI;dsimp only [lca,bM] at H;refine kP H (SQ fun _ aR=>SR fun _ bq=>Rm M (Rm M (Rl jZ M (Rc M (Rm M (Sp 23 M ?_ ?_)))))) <;> clear H
    ·intro h23 a H
     try have Br:=dT h23
     refine kH H (YM h23 M (YC h23 M (Pt h23 M (Kz bq (Cd M ?_ ?_))))) <;> clear H bq
     ·intro jB a H
      try have p26:=dT jB
      have hi2:i < l.length:=by omega
      obtain ⟨bl,ol,rfl,hrow⟩:=Fy (f:=fun q=>q) hu hi2
      replace hrow:aH G bl (ol+i*1)=some (vi l[i]):=by rw [Nat.mul_one];exact hrow
      refine kP H (Kc aR (SQ fun _ bP=>SB (SC (Rm M (Rm M (Sp 30 M ?_ ?_)))))) <;> clear H aR
      ·intro jl a H
       try have p30:=dT jl
       refine kH H (aP jl M (aP jl M (Pt jl M (bD bP M (SC (Rm M (Rd M (Ra M ?_))))))));clear H bP;intro a H;refine aG ?_;refine dY ((i+1,_)) (by exact H.sub ⟨M,M,M,M,M,M,aB⟩) ?_
       try dsimp only
       omega
      intro jl a H
      try have p30:=dF jl
      refine kH H (YM jl M (YM jl M (YI jZ aF jl M M (YR aF jl M hrow (YM jl M (YC jl M (Pf jl M (bD bP M (SC (Rm M (Rd M (Ra M ?_))))))))))));clear H bP;intro a H;refine aG ?_;refine dY ((i+1,_)) (by exact H.sub ⟨M,M,M,M,M,M,aB⟩) ?_
      try dsimp only
      omega
     intro jB a H
     refine dQ ?_;refine ⟨_,by exact H.sub ⟨M,M,M,M,M,aB⟩,?_⟩
     trivial
    intro h23 a H
    refine kH H (aL h23 M (Pf h23 M (Kz bq (Cf M M ?_))));clear H bq;intro a H;refine dQ ?_;refine ⟨_,by exact H.sub ⟨M,M,M,M,M,aB⟩,?_⟩
    trivial
   clear H;intro is a w hI H;skip;dsimp only [lca,bM] at H;refine kP H (SQ fun _ bU=>SR fun _ dh=>aj dh M (SB ?_));clear H dh;intro a H;skip;refine eX (ι:=Nat × Bool) (Tc:=[(0,_),(1,_),(5,_),(6,_)]) (Lc:=[]) (fun gh=>[(7,.bool gh.2),(9,vi gh.1)]) (fun gh=>[]++(L++Lo)) (fun gh=>G) (fun gh=>gh.1<=but.length∧(gh.2=true->∀ x∈but.take gh.1,x≠n)) (fun gh=>but.length - gh.1) ((0,is)) (by exact H.sub ⟨M,M,M,M,M,M,aB⟩) ?_ ?_
   ·exact ⟨lg _,fun _ x h=>(by cases h)⟩
   clear H;rintro ⟨i,is⟩ a w hI H;dsimp only at hI H;obtain ⟨hi,hnx⟩:=hI;dsimp only [lca,bM] at H;refine kP H (SQ fun _ dZ=>SR fun _ eu=>Rm M (Rm M (Rl jZ M (Rc M (Kz eu (Cd M ?_ ?_)))))) <;> clear H eu
   ·intro Xn a H
    try have p41:=dT Xn
    have hi2:i < but.length:=by omega
    obtain ⟨bl,ol,rfl,hrow⟩:=hv i hi2;refine kP H (Kc dZ (SQ fun _ dS=>SB (SC (Rm M (Rm M (Sp 45 M ?_ ?_)))))) <;> clear H dZ
    ·intro h45 a H
     try have p45:=dT h45
     refine kH H (YM h45 M (YM h45 M (YI jZ aF h45 M M ?_)));clear H;intro a H
     refine rG aF H (wg H M M h45) M (by
      rcases hrow with hrow|⟨cs,hm,hc⟩
      ·exact H.hp.aH hrow
      exact H.hp.yh (List.mem_append_left _ hm) hc) M ?_;clear H;intro a H
     refine kH H (YM h45 M (YC h45 M (Pt h45 M (bD dS M (SC (Rm M (Rd M (Ra M ?_))))))));clear H dS;intro a H;refine aG ?_;refine dY ((i+1,_)) (by exact H.sub ⟨M,M,M,M,M,M,aB⟩) ?_
     try dsimp only
     first
     | exact ⟨O,fun h=>by cases h⟩
     | exact ⟨O,fun h=>air hi2 (hnx (by assumption)) (pQ h)⟩
    intro h45 a H
    try have p45:=dF h45
    refine kH H (aP h45 M (aP h45 M (Pf h45 M (bD dS M (SC (Rm M (Rd M (Ra M ?_))))))));clear H dS;intro a H;refine aG ?_;refine dY ((i+1,_)) (by exact H.sub ⟨M,M,M,M,M,M,aB⟩) ?_
    try dsimp only
    first
    | exact ⟨O,fun h=>by cases h⟩
    | exact ⟨O,fun h=>air hi2 (hnx (by assumption)) (pQ h)⟩
   intro Xn a H
   try have p41:=dF Xn
   obtain rfl:i=but.length:=by omega
   rw [yG] at hnx;have hnb:is=true->(n:Int)∉but:=fun h hm=>hnx h _ hm M;refine dQ ?_;refine bU _ _ ?_;clear bU;refine kP H (SR fun _ eY=>Rm M (Kz eY (Cd M ?_ ?_))) <;> clear H eY
   ·intro qZ a H
    try have p53:=dT qZ
    refine kP H (SC (Rm M (Rm M ?_)));clear H;intro a H;refine iC jZ aF [_] [_] H wn M M M M M (by intro i q h;match i,h with|0,h=>exact h|n+1,h=>simp at h) M M ?_;clear H;intro b56 a w aBY H;refine og (Li:=[_]++L) (Lo:=Lo) (news:=[vi n]) jZ aF M M (St.un (A:=[_]) H) wn M M hrw M (H.hp.cB 0 M M) M O O M ?_;clear H;intro v57 akU a w auS H;have H:=H.assoc;dsimp only [lca,bM] at H;refine kH H (bD K7 M (SC (Rm M (Rd M (Ra M ?_)))));clear H K7;intro a H;refine aG ?_;refine dY ((n+1,v57,m++[(n:Int)],xs++[vi n],akU)) (by exact (H.fH (Pl:=[_]) (eD:=[]) [] Z M).sub ⟨M,M,M,M,aB⟩) ?_
    (try dsimp only);exact ⟨O,O,by rw [iW];exact auS,by rw [kR];exact fK.snoc (avI _ _) M,hok.snoc ⟨O,O⟩ hlt O (hnb (by simpa using qZ)),awk hlt⟩
   intro qZ a H
   try have p53:=dF qZ
   refine kP H (Kc K7 (SC (Rm M (Rd M (Ra M ?_)))));clear H K7;intro a H;refine aG ?_;refine dY ((n+1,_,m,xs,Lo)) (by exact H.sub ⟨M,M,M,M,aB⟩) ?_
   (try dsimp only);exact ⟨O,O,hrw,fK,hok,fun x hx=>by have:=hlt x hx;omega⟩
  intro h16 a H
  refine dQ ?_;refine K3 _ _ ?_;clear K3;refine kP H (SR fun _ gU=>Rm M (aj gU M ?_));clear H gU;intro a H;refine fE ?_;obtain ⟨G',hm,hrep,H⟩:=H.qp (Li:=L) hrw (rows:=m.map fun k=>[li k]) (by simp) fK;refine lv H results26 M ?_;exact H.hp.gL ⟨M,m,hok,hrep⟩
 intro h12 a H
 refine kH H (aP h12 M (Pf h12 M (Kz K6 (Cf M M ?_))));clear H K6;intro a H;refine dQ ?_;refine K3 _ _ ?_;clear K3;refine kP H (SR fun _ fJ=>Rm M (aj fJ M ?_));clear H fJ;intro a H;refine fE ?_;obtain ⟨G',hm,hrep,H⟩:=H.qp (Li:=L) hrw (rows:=m.map fun k=>[li k]) (by simp) fK;refine lv H results26 M ?_;exact H.hp.gL ⟨M,m,hok,hrep⟩
theorem WC:aS 51:=aT func51 M
theorem apB:aS 216:=aT func216 M
theorem aoV:aS 166:=aT func166 M
theorem aof:aS 100:=aT func100 M
theorem apC:aS 217:=aT func217 M
theorem aoW:aS 167:=aT func167 M
theorem aog:aS 101:=aT func101 M
theorem bytes_beq (p q:ByteArray):((p.toList == q.toList)=true)↔p=q:=by
 rw [ByteArray.toList_eq,ByteArray.toList_eq,beq_iff_eq];exact ⟨fun e=>Go.WideShapes.bytes_inj e,fun e=>by rw [e]⟩
theorem au.eq_iff (a b:au):((((((a.kind=b.kind∧a.code=b.code)∧a.id=b.id)∧a.text=b.text)∧a.head=b.head)∧a.flow=b.flow)∧a.rows=b.rows)↔a=b:=by
 cases a;cases b
 simp [au.kind,au.code,au.id,au.text,au.head,au.flow,au.rows,and_assoc]
theorem aV.eq_iff (a b:aV):(a.head=b.head∧a.cells=b.cells)↔a=b:=by
 cases a;cases b
 simp [aV.head,aV.cells]
theorem aX.eq_iff (a b:aX):((a.id=b.id∧a.head=b.head)∧a.flow=b.flow)↔a=b:=by
 cases a;cases b
 simp [aX.id,aX.head,aX.flow,and_assoc]
def BH (fv:ah) (G:GH) (d d':List Dat) (p:Prop):Prop:=∀ (G1:GH) (w1:World) (cs cs':List ah),(∀ b o,G b=some o->G1 b=some o)->Hold G1 w1->bB G1 d cs->bB G1 d' cs' ->
 sJ prog fv [.agg cs.toArray,.agg cs'.toArray] w1 (bG w1 G1 fun u G'=>∃ b,u=.bool b∧(b=true↔p))
theorem alW {p:Prop} (h:p:=by
 exact ⟨O,by rw [kG hk2,kG hk3,hsame,Cu.1 (by simpa using jl)],fun b o h=>Fb b o (hgm b o h)⟩):p:=h
theorem MV {p:Prop} (h:p:=by
 intro jl a H
 try have p30:=dF jl
 refine kP H (Kc K9 (SC (Rd M (Rm M ?_))));clear H K9;intro a H;refine aG ?_;refine dY ((k+1,F3)) (by exact (H.fH (Pl:=[_,_]) (eD:=[]) [] Z M).sub ⟨M,M,M,M,M,aB⟩) ?_
 (try dsimp only);exact alW):p:=h
theorem aqQ (G:GH) (w0:World) (hG:Hold G w0) (A B:List au) (v u fv:ah) (hv:ak G (.sl 11 (A.map au.dat)) v) (hu:ak G (.sl 11 (B.map au.dat)) u) (hf:∀ (i:Nat) (h1:i < A.length) (h2:i < B.length),BH fv G A[i].dat B[i].dat (A[i]=B[i])) :
  Calls prog 100 #[v,u,fv] w0 (bG w0 G fun r G'=>∃ b,r=.bool b∧(b=true↔A=B)):=by
 obtain ⟨vA,vc,rfl,hc1,hc2,hg⟩:=hv.slice;obtain ⟨uA,uc,rfl,hd1,hd2,hh⟩:=hu.slice;have hml:maxLen=9223372036854775807:=rfl;(iterate 2 rw [bS] at *);refine eN [(0,_),(1,_),(2,_)] func100 M ntmps100 M M hG ?_;intro a H;refine kP H (SR fun _ K1=>aj K1 M (SQ fun _ K2=>SR fun _ K3=>Rm M (Rl jq M (Rm M (Rl jq M (Rc M (Kz K3 (Cd M ?_ ?_)))))))) <;> clear H K1 K3
 ·intro eO a H
  try have lS:=dT eO
  exact kP H (SR fun _ K4=>aj K4 M (LR results100 M fun H=>H.rt ⟨false,M,by simp only [ug,false_iff];exact fun e=>absurd (cZ List.length e) O⟩))
 intro eO a H
 try have lS:=dF eO
 refine kP H (Kc K2 (SQ fun _ K5=>SR fun _ K6=>Rm M (Rl jq M (Rm M (Kz K6 (SB ?_))))));clear H K2 K6;intro a H;skip;refine eX (ι:=Nat × GH) (Tc:=[(1,_),(2,_),(15,_),(16,_)]) (Lc:=[]) (fun gh=>[(17,vi gh.1)]) (fun gh=>[]) (fun gh=>gh.2) (fun gh=>gh.1<=A.length∧A.take gh.1=B.take gh.1∧(∀ b o,G b=some o->gh.2 b=some o)) (fun gh=>A.length - gh.1) ((0,G)) (by exact H.sub ⟨M,M,M,M,M,aB⟩) ?_ ?_
 ·exact rU
 clear H;rintro ⟨k,g⟩ a w hI H;dsimp only at hI H;obtain ⟨hk,hsame,hgm⟩:=hI;dsimp only [lca,bM] at H;refine kP H (SR fun _ K7=>Rc M (Kz K7 (SQ fun _ K8=>Cd M ?_ ?_))) <;> clear H K7
 ·intro h18 a H
  try have tN:=dT h18
  have hk2:k < A.length:=by omega
  have hk3:k < B.length:=by omega
  obtain ⟨b1,o1,cs1,rfl,AX,oF,hr1⟩:=hg k A[k].dat (by simp [hk2]);obtain ⟨pA,pn,pc,dA,dn,dc,yA,yn,yc,fA,fn,fc,rA,rn,rc,rfl,-⟩:=hr1.item;obtain ⟨b2,o2,cs2,rfl,AY,hrow2,hr2⟩:=hh k B[k].dat (by simp [hk3]);obtain ⟨LA,OG,pc2,JW,Nj,JY,Pq,Pw,Pv,J2,Kj,J3,rA2,rn2,rc2,rfl,-⟩:=hr2.item;refine kP H (Kc K8 (SQ fun _ K9=>SB (SR fun _ aR=>Rm M (Ri jq gI M M ?_))));clear H K8;intro a H;refine aU gI (cs:=_) H wn M M (fun j v hj=>H.hp.aH (aC hgm (oF j v hj))) M ?_;clear H;intro a H;refine dJ gI H wn M ?_;clear H;intro b8 a w DU H;refine kH H (Ra M ?_);clear H;intro a H;refine bC gI 0 (vs:=[_,_,_,_,_,_,_,_,_,_,_]) H wn M ?_;clear H;intro w H;refine aR _ _ ?_;clear aR;refine kP H (SR fun _ bq=>Rm M (Rm M (Ri jq gI M M ?_)));clear H;intro a H;refine aU gI (cs:=_) H wn M M (fun j v hj=>H.hp.aH (aC hgm (hrow2 j v hj))) M ?_;clear H;intro a H;refine dJ gI H wn M ?_;clear H;intro b9 a w uz H;refine bC gI 0 (vs:=[_,_,_,_,_,_,_,_,_,_,_]) H wn M ?_;clear H;intro w H;refine bq _ _ ?_;clear bq;refine kP H (SR fun _ bP=>Rm M ?_);clear H;intro a H;refine aU gI (cs:=[_,_,_,_,_,_,_,_,_,_,_]) H wn M M (H.hp.cB 1 M M) M ?_;clear H;intro a H;refine aU gI (cs:=[_,_,_,_,_,_,_,_,_,_,_]) H wn M M (H.hp.cB 0 M M) M ?_;clear H;intro a H;refine jO H wn M M (hf k hk2 hk3 _ _ _ _ hgm H.ro (hr1.mono hgm) (hr2.mono hgm)) M ?_;clear H;rintro v29 F3 a w ⟨Qe,rfl,Cu⟩ Fb H;refine kH H (Rn M (Kz bP (Cd M ?_ ?_))) <;> clear H bP
  ·intro jl a H
   exact kP H (SR fun _ bU=>aj bU M (LR results100 M fun H=>H.rt ⟨false,M,by simp only [ug,false_iff];rintro rfl;exact absurd (Cu.2 M) (by simpa using jl)⟩))
  exact MV
 intro h18 a H
 try have tN:=dF h18
 refine dQ ?_;refine K5 _ _ ?_;clear K5;exact kP H (SR fun _ dh=>aj dh M (LR results100 M fun H=>H.rt ⟨true,M,by rw [jF O,jF O] at hsame;simpa using hsame⟩))
theorem aqR (G:GH) (w0:World) (hG:Hold G w0) (A B:List aV) (v u fv:ah) (hv:ak G (.sl 6 (A.map aV.dat)) v) (hu:ak G (.sl 6 (B.map aV.dat)) u) (hf:∀ (i:Nat) (h1:i < A.length) (h2:i < B.length),BH fv G A[i].dat B[i].dat (A[i]=B[i])) :
  Calls prog 166 #[v,u,fv] w0 (bG w0 G fun r G'=>∃ b,r=.bool b∧(b=true↔A=B)):=by
 obtain ⟨vA,vc,rfl,hc1,hc2,hg⟩:=hv.slice;obtain ⟨uA,uc,rfl,hd1,hd2,hh⟩:=hu.slice;have hml:maxLen=9223372036854775807:=rfl;(iterate 2 rw [bS] at *);refine eN [(0,_),(1,_),(2,_)] func166 M ntmps166 M M hG ?_;intro a H;refine kP H (SR fun _ K1=>aj K1 M (SQ fun _ K2=>SR fun _ K3=>Rm M (Rl nO M (Rm M (Rl nO M (Rc M (Kz K3 (Cd M ?_ ?_)))))))) <;> clear H K1 K3
 ·intro eO a H
  try have lS:=dT eO
  exact kP H (SR fun _ K4=>aj K4 M (LR results166 M fun H=>H.rt ⟨false,M,by simp only [ug,false_iff];exact fun e=>absurd (cZ List.length e) O⟩))
 intro eO a H
 try have lS:=dF eO
 refine kP H (Kc K2 (SQ fun _ K5=>SR fun _ K6=>Rm M (Rl nO M (Rm M (Kz K6 (SB ?_))))));clear H K2 K6;intro a H;skip;refine eX (ι:=Nat × GH) (Tc:=[(1,_),(2,_),(15,_),(16,_)]) (Lc:=[]) (fun gh=>[(17,vi gh.1)]) (fun gh=>[]) (fun gh=>gh.2) (fun gh=>gh.1<=A.length∧A.take gh.1=B.take gh.1∧(∀ b o,G b=some o->gh.2 b=some o)) (fun gh=>A.length - gh.1) ((0,G)) (by exact H.sub ⟨M,M,M,M,M,aB⟩) ?_ ?_
 ·exact rU
 clear H;rintro ⟨k,g⟩ a w hI H;dsimp only at hI H;obtain ⟨hk,hsame,hgm⟩:=hI;dsimp only [lca,bM] at H;refine kP H (SR fun _ K7=>Rc M (Kz K7 (SQ fun _ K8=>Cd M ?_ ?_))) <;> clear H K7
 ·intro h18 a H
  try have tN:=dT h18
  have hk2:k < A.length:=by omega
  have hk3:k < B.length:=by omega
  obtain ⟨b1,o1,cs1,rfl,AX,oF,hr1⟩:=hg k A[k].dat (by simp [hk2]);obtain ⟨pA,pn,pc,dA,dn,dc,yA,yn,yc,fA,fn,fc,rfl,-⟩:=hr1.row;obtain ⟨b2,o2,cs2,rfl,AY,hrow2,hr2⟩:=hh k B[k].dat (by simp [hk3]);obtain ⟨LA,OG,pc2,JW,Nj,JY,Pq,Pw,Pv,J2,Kj,J3,rfl,-⟩:=hr2.row;refine kP H (Kc K8 (SQ fun _ K9=>SB (SR fun _ aR=>Rm M (Ri nO jK M M ?_))));clear H K8;intro a H;refine aU jK (cs:=_) H wn M M (fun j v hj=>H.hp.aH (aC hgm (oF j v hj))) M ?_;clear H;intro a H;refine dJ jK H wn M ?_;clear H;intro b8 a w DU H;refine kH H (Ra M ?_);clear H;intro a H;refine bC jK 0 (vs:=[_,_,_,_,_,_]) H wn M ?_;clear H;intro w H;refine aR _ _ ?_;clear aR;refine kP H (SR fun _ bq=>Rm M (Rm M (Ri nO jK M M ?_)));clear H;intro a H;refine aU jK (cs:=_) H wn M M (fun j v hj=>H.hp.aH (aC hgm (hrow2 j v hj))) M ?_;clear H;intro a H;refine dJ jK H wn M ?_;clear H;intro b9 a w uz H;refine bC jK 0 (vs:=[_,_,_,_,_,_]) H wn M ?_;clear H;intro w H;refine bq _ _ ?_;clear bq;refine kP H (SR fun _ bP=>Rm M ?_);clear H;intro a H;refine aU jK (cs:=[_,_,_,_,_,_]) H wn M M (H.hp.cB 1 M M) M ?_;clear H;intro a H;refine aU jK (cs:=[_,_,_,_,_,_]) H wn M M (H.hp.cB 0 M M) M ?_;clear H;intro a H;refine jO H wn M M (hf k hk2 hk3 _ _ _ _ hgm H.ro (hr1.mono hgm) (hr2.mono hgm)) M ?_;clear H;rintro v29 F3 a w ⟨Qe,rfl,Cu⟩ Fb H;refine kH H (Rn M (Kz bP (Cd M ?_ ?_))) <;> clear H bP
  ·intro jl a H
   exact kP H (SR fun _ bU=>aj bU M (LR results166 M fun H=>H.rt ⟨false,M,by simp only [ug,false_iff];rintro rfl;exact absurd (Cu.2 M) (by simpa using jl)⟩))
  exact MV
 intro h18 a H
 try have tN:=dF h18
 refine dQ ?_;refine K5 _ _ ?_;clear K5;exact kP H (SR fun _ dh=>aj dh M (LR results166 M fun H=>H.rt ⟨true,M,by rw [jF O,jF O] at hsame;simpa using hsame⟩))
theorem aqP (G:GH) (w0:World) (hG:Hold G w0) (A B:List aX) (v u fv:ah) (hv:ak G (.sl 7 (A.map aX.dat)) v) (hu:ak G (.sl 7 (B.map aX.dat)) u) (hf:∀ (i:Nat) (h1:i < A.length) (h2:i < B.length),BH fv G A[i].dat B[i].dat (A[i]=B[i])) :
  Calls prog 216 #[v,u,fv] w0 (bG w0 G fun r G'=>∃ b,r=.bool b∧(b=true↔A=B)):=by
 obtain ⟨vA,vc,rfl,hc1,hc2,hg⟩:=hv.slice;obtain ⟨uA,uc,rfl,hd1,hd2,hh⟩:=hu.slice;have hml:maxLen=9223372036854775807:=rfl;(iterate 2 rw [bS] at *);refine eN [(0,_),(1,_),(2,_)] func216 M ntmps216 M M hG ?_;intro a H;refine kP H (SR fun _ K1=>aj K1 M (SQ fun _ K2=>SR fun _ K3=>Rm M (Rl qh M (Rm M (Rl qh M (Rc M (Kz K3 (Cd M ?_ ?_)))))))) <;> clear H K1 K3
 ·intro eO a H
  try have lS:=dT eO
  exact kP H (SR fun _ K4=>aj K4 M (LR results216 M fun H=>H.rt ⟨false,M,by simp only [ug,false_iff];exact fun e=>absurd (cZ List.length e) O⟩))
 intro eO a H
 try have lS:=dF eO
 refine kP H (Kc K2 (SQ fun _ K5=>SR fun _ K6=>Rm M (Rl qh M (Rm M (Kz K6 (SB ?_))))));clear H K2 K6;intro a H;skip;refine eX (ι:=Nat × GH) (Tc:=[(1,_),(2,_),(15,_),(16,_)]) (Lc:=[]) (fun gh=>[(17,vi gh.1)]) (fun gh=>[]) (fun gh=>gh.2) (fun gh=>gh.1<=A.length∧A.take gh.1=B.take gh.1∧(∀ b o,G b=some o->gh.2 b=some o)) (fun gh=>A.length - gh.1) ((0,G)) (by exact H.sub ⟨M,M,M,M,M,aB⟩) ?_ ?_
 ·exact rU
 clear H;rintro ⟨k,g⟩ a w hI H;dsimp only at hI H;obtain ⟨hk,hsame,hgm⟩:=hI;dsimp only [lca,bM] at H;refine kP H (SR fun _ K7=>Rc M (Kz K7 (SQ fun _ K8=>Cd M ?_ ?_))) <;> clear H K7
 ·intro h18 a H
  try have tN:=dT h18
  have hk2:k < A.length:=by omega
  have hk3:k < B.length:=by omega
  obtain ⟨b1,o1,cs1,rfl,AX,oF,hr1⟩:=hg k A[k].dat (by simp [hk2]);obtain ⟨pA,pn,pc,dA,dn,dc,yA,yn,yc,fA,fn,fc,rfl,-⟩:=hr1.cell;obtain ⟨b2,o2,cs2,rfl,AY,hrow2,hr2⟩:=hh k B[k].dat (by simp [hk3]);obtain ⟨LA,OG,pc2,JW,Nj,JY,Pq,Pw,Pv,J2,Kj,J3,rfl,-⟩:=hr2.cell;refine kP H (Kc K8 (SQ fun _ K9=>SB (SR fun _ aR=>Rm M (Ri qh kE M M ?_))));clear H K8;intro a H;refine aU kE (cs:=_) H wn M M (fun j v hj=>H.hp.aH (aC hgm (oF j v hj))) M ?_;clear H;intro a H;refine dJ kE H wn M ?_;clear H;intro b8 a w DU H;refine kH H (Ra M ?_);clear H;intro a H;refine bC kE 0 (vs:=[_,_,_,_,_,_,_]) H wn M ?_;clear H;intro w H;refine aR _ _ ?_;clear aR;refine kP H (SR fun _ bq=>Rm M (Rm M (Ri qh kE M M ?_)));clear H;intro a H;refine aU kE (cs:=_) H wn M M (fun j v hj=>H.hp.aH (aC hgm (hrow2 j v hj))) M ?_;clear H;intro a H;refine dJ kE H wn M ?_;clear H;intro b9 a w uz H;refine bC kE 0 (vs:=[_,_,_,_,_,_,_]) H wn M ?_;clear H;intro w H;refine bq _ _ ?_;clear bq;refine kP H (SR fun _ bP=>Rm M ?_);clear H;intro a H;refine aU kE (cs:=[_,_,_,_,_,_,_]) H wn M M (H.hp.cB 1 M M) M ?_;clear H;intro a H;refine aU kE (cs:=[_,_,_,_,_,_,_]) H wn M M (H.hp.cB 0 M M) M ?_;clear H;intro a H;refine jO H wn M M (hf k hk2 hk3 _ _ _ _ hgm H.ro (hr1.mono hgm) (hr2.mono hgm)) M ?_;clear H;rintro v29 F3 a w ⟨Qe,rfl,Cu⟩ Fb H;refine kH H (Rn M (Kz bP (Cd M ?_ ?_))) <;> clear H bP
  ·intro jl a H
   exact kP H (SR fun _ bU=>aj bU M (LR results216 M fun H=>H.rt ⟨false,M,by simp only [ug,false_iff];rintro rfl;exact absurd (Cu.2 M) (by simpa using jl)⟩))
  exact MV
 intro h18 a H
 try have tN:=dF h18
 refine dQ ?_;refine K5 _ _ ?_;clear K5;exact kP H (SR fun _ dh=>aj dh M (LR results216 M fun H=>H.rt ⟨true,M,by rw [jF O,jF O] at hsame;simpa using hsame⟩))
def FY (n:Nat):Prop:=∀ (G:GH) (w0:World),Hold G w0->∀ (A B:List au) (v u:ah),ak G (.sl 11 (A.map au.dat)) v->ak G (.sl 11 (B.map au.dat)) u->dH A < n ->
 Calls prog 51 #[v,u] w0 (bG w0 G fun r G'=>∃ b,r=.bool b∧(b=true↔A=B))
theorem aqN {n:Nat} (ih:FY n) (G:GH) (x y:aX) (hz:dH x.flow < n):BH (.func (.func 217) #[] #[]) G x.dat y.dat (x=y):=by
 intro G1 w0 cs cs' hm hG h1 h2;refine jy (caps:=[]) apC ?_;obtain ⟨pA,pn,pc,dA,dn,dc,yA,yn,yc,fA,fn,fc,rfl,NR,hf1⟩:=h1.cell;obtain ⟨LA,OG,pc2,JW,Nj,JY,Pq,Pw,Pv,J2,Kj,J3,rfl,H6,hf2⟩:=h2.cell;have he:=aX.eq_iff x y;refine eN [(0,_),(1,_)] func217 M ntmps217 M M hG ?_;intro a H;refine dz (fun _ K1=>?_);refine dR (cs:=[_,_,_,_,_,_,_]) H wn M M M ?_;clear H;intro b2 a w hb2 H;refine dR (cs:=[_,_,_,_,_,_,_]) H wn M M M ?_;clear H;intro b3 a w hb3 H;refine kH H (aj K1 M (SR fun _ K2=>bQ NA aF 1 M M (bQ NA aF 0 M M (Rc M (Rm M (Sp 10 M ?_ ?_)))))) <;> clear H K1
 ·intro h10 a H
  try have jc:=dT h10
  refine kH H (YF Ke h10 M ?_);clear H;intro a H;refine aU fB (cs:=[_,_,_,_,_]) H (wg H M M h10) M M (H.hp.cB 1 M M) M ?_;clear H;intro a H;refine kH H (YF Ke h10 M ?_);clear H;intro a H;refine aU fB (cs:=[_,_,_,_,_]) H (wg H M M h10) M M (H.hp.cB 0 M M) M ?_;clear H;intro a H;refine s_call Nn H (wg H M M h10) M (Nq _ _ H.ro x.head y.head _ _ _ _ _ _ NR H6) M ?_;clear H;rintro vH GH a w rfl Cy H;refine kH H (Pt h10 M (Rm M (Sp 17 M ?_ ?_))) <;> clear H
  ·intro cu a H
   try have lI:=dT cu
   refine kH H (YF GZ cu M (YO kW 1 cu M (YF GZ cu M (YO kW 0 cu M ?_))));clear H;intro a H;refine s_call WC H (wg H M M cu) M (ih _ _ H.ro x.flow y.flow _ _ (hf1.mono Cy) (hf2.mono Cy) hz) M ?_;clear H;rintro vF GF a w ⟨bF,rfl,hbF⟩ RH H;exact kH H (Pt cu M (aj K2 M (LR results217 M fun H=>H.rt ⟨_,M,by rw [<- he];simp_all⟩)))
  intro cu a H
  try have lI:=dF cu
  exact kH H (aP cu M (aL cu M (Pf cu M (aj K2 M (LR results217 M fun H=>H.rt ⟨_,M,by rw [<- he];simp_all⟩)))))
 intro h10 a H
 try have jc:=dF h10
 exact kH H (aP h10 M (aL h10 M (Pf h10 M (Rm M (aP M M (aL M M (Pf M M (aj K2 M (LR results217 M fun H=>H.rt ⟨_,M,by rw [<- he];simp_all⟩)))))))))
theorem aqX {n:Nat} (ih:FY n) (hn:n<=4294967297) (G:GH) (x y:aV) (hz:ji x.cells < n):BH (.func (.func 167) #[] #[]) G x.dat y.dat (x=y):=by
 intro G1 w0 cs cs' hm hG h1 h2;refine jy (caps:=[]) aoW ?_;obtain ⟨pA,pn,pc,dA,dn,dc,yA,yn,yc,fA,fn,fc,rfl,NR,hf1⟩:=h1.row;obtain ⟨LA,OG,pc2,JW,Nj,JY,Pq,Pw,Pv,J2,Kj,J3,rfl,H6,hf2⟩:=h2.row;have he:=aV.eq_iff x y;refine eN [(0,_),(1,_)] func167 M ntmps167 M M hG ?_;intro a H;refine dz (fun _ K1=>?_);refine dR (cs:=[_,_,_,_,_,_]) H wn M M M ?_;clear H;intro b2 a w hb2 H;refine dR (cs:=[_,_,_,_,_,_]) H wn M M M ?_;clear H;intro b3 a w hb3 H;refine kH H (aj K1 M (SR fun _ K2=>Rf Ka M ?_));clear H K1;intro a H;refine aU fB (cs:=[_,_,_,_,_]) H wn M M (H.hp.cB 1 M M) M ?_;clear H;intro a H;refine kH H (Rf Ka M ?_);clear H;intro a H;refine aU fB (cs:=[_,_,_,_,_]) H wn M M (H.hp.cB 0 M M) M ?_;clear H;intro a H;refine s_call Nn H wn M (Nq _ _ H.ro x.head y.head _ _ _ _ _ _ NR H6) M ?_;clear H;rintro vH GH a w rfl Cy H;refine kH H (Rm M (Sp 10 M ?_ ?_)) <;> clear H
 ·intro h10 a H
  try have jc:=dT h10
  refine kH H (YF zM h10 M (YO Ad 1 h10 M (YF zM h10 M (YO Ad 0 h10 M ?_))));clear H;intro a H;refine s_call apB H (wg H M M h10) M (aqP _ _ H.ro x.cells y.cells _ _ _ (hf1.mono Cy) (hf2.mono Cy) (fun i h1 h2=>aqN ih _ _ _ (by have:=Ui h1;omega))) rfl ?_;clear H;rintro vF GF a w ⟨bF,rfl,hbF⟩ RH H;exact kH H (Pt h10 M (aj K2 M (LR results167 M fun H=>H.rt ⟨_,M,by rw [<- he];simp_all⟩)))
 intro h10 a H
 try have jc:=dF h10
 exact kH H (aP h10 M (aL h10 M (Pf h10 M (aj K2 M (LR results167 M fun H=>H.rt ⟨_,M,by rw [<- he];simp_all⟩)))))
theorem aqS {n:Nat} (ih:FY n) (hn:n<=4294967297) (G:GH) (w0:World) (hG:Hold G w0) (x y:au) (cs cs':List ah) (h1:bB G x.dat cs) (h2:bB G y.dat cs') (hz:dH x.flow < n) (hr:iK x.rows < n) :
  Calls prog 101 #[.agg cs.toArray,.agg cs'.toArray] w0 (bG w0 G fun u G'=>∃ b,u=.bool b∧(b=true↔x=y)):=by
 obtain ⟨pA,pn,pc,dA,dn,dc,yA,yn,yc,fA,fn,fc,rA,rn,rc,rfl,NR,hf1,hw1⟩:=h1.item;obtain ⟨LA,OG,pc2,JW,Nj,JY,Pq,Pw,Pv,J2,Kj,J3,rA2,rn2,rc2,rfl,H6,hf2,hw2⟩:=h2.item;have he:=au.eq_iff x y;have hb:=bytes_beq x.text y.text;refine eN [(0,_),(1,_)] func101 M ntmps101 M M hG ?_;intro a H;refine dz (fun _ K1=>?_);refine dR (cs:=[_,_,_,_,_,_,_,_,_,_,_]) H wn M M M ?_;clear H;intro b2 a w hb2 H;refine dR (cs:=[_,_,_,_,_,_,_,_,_,_,_]) H wn M M M ?_;clear H;intro b3 a w hb3 H;refine kH H (aj K1 M (SR fun _ K2=>bQ lM aF 1 M M (bQ lM aF 0 M M (Rc M (Rm M (Sp 10 M ?_ ?_)))))) <;> clear H K1
 ·intro h10 a H
  try have jc:=dT h10
  refine kH H (YF GY h10 M (YO aF 1 h10 M (YF GY h10 M (YO aF 0 h10 M (YC h10 M (Pt h10 M (Rm M (Sp 17 M ?_ ?_)))))))) <;> clear H
  ·intro cu a H
   try have lI:=dT cu
   refine kH H (YF J9 cu M (YO aF 1 cu M (YF J9 cu M (YO aF 0 cu M (YC cu M (Pt cu M (Rm M (Sp 24 M ?_ ?_)))))))) <;> clear H
   ·intro cK a H
    try have kV:=dT cK
    refine kH H (YF vY cK M (YO iP 1 cK M (YF vY cK M (YO iP 0 cK M ?_))));clear H;intro a H;refine CV H (wg H M M cK) M M M ?_;clear H;intro a H;refine kH H (Pt cK M (Rm M (Sp 31 M ?_ ?_))) <;> clear H
    ·intro h31 a H
     try have p31:=dT h31
     refine kH H (YF wN h31 M ?_);clear H;intro a H;refine aU fB (cs:=[_,_,_,_,_]) H (wg H M M h31) M M (H.hp.cB 1 M M) M ?_;clear H;intro a H;refine kH H (YF wN h31 M ?_);clear H;intro a H;refine aU fB (cs:=[_,_,_,_,_]) H (wg H M M h31) M M (H.hp.cB 0 M M) M ?_;clear H;intro a H;refine s_call Nn H (wg H M M h31) M (Nq _ _ H.ro x.head y.head _ _ _ _ _ _ NR H6) M ?_;clear H;rintro vH GH a w rfl Cy H;refine kH H (Pt h31 M (Rm M (Sp 38 M ?_ ?_))) <;> clear H
     ·intro fU a H
      try have p38:=dT fU
      refine kH H (YF zL fU M (YO kW 1 fU M (YF zL fU M (YO kW 0 fU M ?_))));clear H;intro a H;refine s_call WC H (wg H M M fU) M (ih _ _ H.ro x.flow y.flow _ _ (hf1.mono Cy) (hf2.mono Cy) hz) M ?_;clear H;rintro vF GF a w ⟨bF,rfl,hbF⟩ RH H;refine kH H (Pt fU M (Rm M (Sp 45 M ?_ ?_))) <;> clear H
      ·intro h45 a H
       try have p45:=dT h45
       refine kH H (YF uw h45 M (YO uL 1 h45 M (YF uw h45 M (YO uL 0 h45 M ?_))));clear H;intro a H;refine s_call aoV H (wg H M M h45) M (aqR _ _ H.ro x.rows y.rows _ _ _ ((hw1.mono Cy).mono RH) ((hw2.mono Cy).mono RH) (fun i h1 h2=>aqX ih hn _ _ _ (by have:=Uj h1;omega))) rfl ?_;clear H;rintro vW GW a w ⟨bW,rfl,hbW⟩ hmW H;exact kH H (Pt h45 M (aj K2 M (LR results101 M fun H=>H.rt ⟨_,M,by rw [<- he];simp_all⟩)))
      intro h45 a H
      try have p45:=dF h45
      exact kH H (aP h45 M (aL h45 M (Pf h45 M (aj K2 M (LR results101 M fun H=>H.rt ⟨_,M,by rw [<- he];simp_all⟩)))))
     intro fU a H
     try have p38:=dF fU
     exact kH H (aP fU M (aL fU M (Pf fU M (Rm M (aP M M (aL M M (Pf M M (aj K2 M (LR results101 M fun H=>H.rt ⟨_,M,by rw [<- he];simp_all⟩)))))))))
    intro h31 a H
    try have p31:=dF h31
    exact kH H (aP h31 M (aL h31 M (Pf h31 M (Rm M (aP M M (aL M M (Pf M M (Rm M (aP M M (aL M M (Pf M M (aj K2 M (LR results101 M fun H=>H.rt ⟨_,M,by rw [<- he];simp_all⟩)))))))))))))
   intro cK a H
   try have kV:=dF cK
   exact kH H (aP cK M (aL cK M (Pf cK M (Rm M (aP M M (aL M M (Pf M M (Rm M (aP M M (aL M M (Pf M M (Rm M (aP M M (aL M M (Pf M M (aj K2 M (LR results101 M fun H=>H.rt ⟨_,M,by rw [<- he];simp_all⟩)))))))))))))))))
  intro cu a H
  try have lI:=dF cu
  exact kH H (aP cu M (aL cu M (Pf cu M (Rm M (aP M M (aL M M (Pf M M (Rm M (aP M M (aL M M (Pf M M (Rm M (aP M M (aL M M (Pf M M (Rm M (aP M M (aL M M (Pf M M (aj K2 M (LR results101 M fun H=>H.rt ⟨_,M,by rw [<- he];simp_all⟩)))))))))))))))))))))
 intro h10 a H
 try have jc:=dF h10
 refine kH H (aP h10 M (aL h10 M (Pf h10 M (Rm M (aP M M (aL M M (Pf M M (Rm M (aP M M (aL M M (Pf M M (Rm M (aP M M (aL M M (Pf M M (Rm M (aP M M (aL M M (Pf M M (Rm M (aP M M (aL M M ?_))))))))))))))))))))));clear H;intro a H;exact kH H (Pf M M (aj K2 M (LR results101 M fun H=>H.rt ⟨_,M,by rw [<- he];simp_all⟩)))
theorem aqT {n:Nat} (ih:FY n) (hn:n<=4294967297) (G:GH) (x y:au) (hz:dH x.flow < n) (hr:iK x.rows < n):BH (.func (.func 101) #[] #[]) G x.dat y.dat (x=y):=by
 intro G1 w0 cs cs' hm hG h1 h2;exact jy (caps:=[]) aog (aqS ih hn G1 w0 hG x y cs cs' h1 h2 hz hr)
theorem ara {n:Nat} (ih:FY n) (hn:n<=4294967297):FY (n+1):=by
 intro G w0 hG A B v u hv hu hz;refine eN [(0,_),(1,_)] func51 M ntmps51 M M hG ?_;intro a H;refine kP H (SR fun _ K1=>aj K1 M (SR fun _ K2=>Rm M (Rm M ?_)));clear H K1;intro a H;refine s_call aof H wn M (aqQ _ _ H.ro A B _ _ _ hv hu (fun i h1 h2=>aqT ih hn _ _ _ (by have:=Py h1;omega) (by have:=Py h1;omega))) rfl ?_;clear H;rintro v7 G7 a w ⟨b7,rfl,xV⟩ uG H;exact kH H (aj K2 M (LR results51 M fun H=>H.rt ⟨_,M,xV⟩))
theorem afh:∀ n:Nat,n<=4294967298->FY n
 | 0,_=>fun _ _ _ _ _ _ _ _ _ h=>absurd h O
 | n+1,hn=>ara (afh n O) O
theorem aru (G:GH) (w0:World) (hG:Hold G w0) (A B:List au) (v u:ah) (hv:ak G (.sl 11 (A.map au.dat)) v) (hu:ak G (.sl 11 (B.map au.dat)) u) (hz:dH A<=4294967296) :
  Calls prog 51 #[v,u] w0 (bG w0 G fun r G'=>∃ b,r=.bool b∧(b=true↔A=B)):=afh 4294967298 O G w0 hG A B v u hv hu O
section
def kr (xs:Array ah) (o:Nat × Nat):Option (Int × Int × List UInt8):=match o.2 with
 | 0=>(mI xs o.1).map fun n=>(n,0,[])
 | 1=>match xs[o.1]? with|some (.string s)=>some (0,0,s.toList)|_=>none
 | 2=>match mI xs o.1,mI xs (o.1+1) with|some a,some b=>some (a,b,[])|_,_=>none
 | 3=>match xs[o.1]? with|some (.bool b)=>some (if b=true then 1 else 0,0,[])|_=>none
 | _=>none
def aiv (P:Program) (t:TypeId):Bool:=!P.stoodInHeld t && decide ((P.fieldsOf t).toList.map (·.offset)=[0,1]) && ((P.fieldsOf t).toList.all fun f=>decide (f.name ≠ "_") && P.plainKey f.type && YG (P.underlying f.type)) && decide (P.cellsOf t=2) && (P.info? t).isSome
def zU (P:Program) (t:TypeId):Nat:=match P.underlying t with|some (.int .i64)=>0|some .string=>1|some (.struct _)=>2|some .bool=>3|_=>4
def Zj (P:Program) (t:TypeId):Bool:=match zU P t with|0=>P.plainKey t|1=>P.plainKey t|2=>aiv P t|3=>P.plainKey t|_=>false
structure Mi (P:Program) (t:TypeId) (zi:List (Nat × Nat)):Prop where
 und:P.underlying t=some (.struct (P.fieldsOf t))
 held:P.stoodInHeld t=false
 guard:P.eqGuardType P.depth t=false
 EY:(P.fieldsOf t).toList.map (fun f=>(f.offset,zU P f.type))=zi
 ok:(P.fieldsOf t).toList.all (fun f=>decide (f.name ≠ "_") && Zj P f.type)=true
theorem aAP {P:Program} {t:TypeId} {fs:Array Field} (h:P.underlying t=some (.struct fs)):P.underlying t=some (.struct (P.fieldsOf t)):=by
 rw [h]
 simp [Program.fieldsOf,h]
theorem ajk {P:Program} (w:World) {t:TypeId} {fs:Array Field} (hu:P.underlying t=some (.struct fs)) {i:TypeInfo} (hi:P.info? t=some i) (hc:P.cellsOf t=2) (xs:Array ah) (off:Nat):(part t xs off).run P w=.ok (.agg (xs.extract off (off+2))) w:=by
 unfold part
 simp [isAgg,dU,run_underlying hu,run_sizeOf w hi,hc]
theorem Q8 {xs:Array ah} {o:Nat} {n:Int} (h:mI xs o=some n):xs[o]?=some (.int .i64 n):=by
 unfold mI at h
 split at h
 ·rename_i hx;cases h;exact hx
 ·cases h
theorem afO {xs:Array ah} {off:Nat} {a b:Int} (h1:mI xs off=some a) (h2:mI xs (off+1)=some b):mI (xs.extract off (off+2)) 0=some a∧mI (xs.extract off (off+2)) 1=some b:=by
 have e1:=Q8 h1
 have e2:=Q8 h2
 have hl:off+1 < xs.size:=(Array.getElem?_eq_some_iff.1 e2).1
 constructor
 ·unfold mI
  rw [Array.getElem?_extract,aD O,zF,e1]
 ·unfold mI
  rw [Array.getElem?_extract,aD O,e2]
theorem ajh {P:Program} {w:World} {d:Nat} {xs ys:Array ah}:∀ fs:List Field,fs.all (fun f=>decide (f.name ≠ "_") && Zj P f.type)=true ->
  (fs.map (fun f=>(f.offset,zU P f.type))).all (fun o=>(kr xs o).isSome && (kr ys o).isSome)=true->(Op.eqFields (d+2) xs ys fs).run P w=.ok ((fs.map (fun f=>(f.offset,zU P f.type))).all fun o=>kr xs o == kr ys o) w
 | [],_,_=>by simp [Op.eqFields]
 | f :: fs,h1,h2=>by
  simp only [List.all_cons,iL,oM,fD] at h1 h2
  obtain ⟨⟨hn,hk⟩,h1⟩:=h1
  obtain ⟨⟨hx,hy⟩,h2⟩:=h2
  have ih:=ajh (w:=w) (d:=d) fs (by simpa using h1) h2
  have fin:∀ (x y:ah) (r:Bool),(part f.type xs f.offset).run P w=.ok x w->(part f.type ys f.offset).run P w=.ok y w->(Op.equalIn (d+2) f.type x y).run P w=.ok r w->(kr xs (f.offset,zU P f.type) == kr ys (f.offset,zU P f.type))=r ->
    (Op.eqFields (d+2) xs ys (f :: fs)).run P w=.ok (((f :: fs).map (fun f=>(f.offset,zU P f.type))).all fun o=>kr xs o == kr ys o) w:=by
   intro x y r p1 p2 p3 p4
   simp only [Op.eqFields,hn,ne_eq,not_false_eq_true,if_true,dU,p1,p2,nS,p3,fD,List.all_cons,p4]
   cases r with
   | true=>simp [ih,List.all_map]
   | false=>simp
  unfold Zj at hk
  rcases hkd:zU P f.type with _|_|_|_|n
  ·rw [hkd] at hk hx hy
   have hu:P.underlying f.type=some (.int .i64):=by unfold zU at hkd;split at hkd <;> first|assumption|cases hkd
   obtain ⟨m,hm⟩:∃ m,mI xs f.offset=some m:=by cases h:mI xs f.offset with|some m=>exact ⟨m,M⟩|none=>simp [kr,h] at hx
   obtain ⟨m2,hm2⟩:∃ m,mI ys f.offset=some m:=by cases h:mI ys f.offset with|some m=>exact ⟨m,M⟩|none=>simp [kr,h] at hy
   refine fin _ _ _ (run_part_plain w hk (Q8 hm)) (run_part_plain w hk (Q8 hm2)) (run_equalIn_int w (d+1) f.type .i64 .i64 m m2 hu) ?_
   rw [hkd,rT]
   simp [kr,hm,hm2]
  ·rw [hkd] at hk hx hy
   have hu:P.underlying f.type=some .string:=by unfold zU at hkd;split at hkd <;> first|assumption|cases hkd
   obtain ⟨m,hm⟩:∃ m,xs[f.offset]?=some (.string m):=by
    simp only [kr] at hx
    split at hx
    ·rename_i s hs;exact ⟨s,hs⟩
    ·cases hx
   obtain ⟨m2,hm2⟩:∃ m,ys[f.offset]?=some (.string m):=by
    simp only [kr] at hy
    split at hy
    ·rename_i s hs;exact ⟨s,hs⟩
    ·cases hy
   refine fin _ _ _ (run_part_plain w hk hm) (run_part_plain w hk hm2) (run_equalIn_string w (d+1) f.type m m2 hu) ?_
   rw [hkd,rT]
   simp [kr,hm,hm2]
  ·rw [hkd] at hk hx hy
   obtain ⟨gs,hu⟩:∃ gs,P.underlying f.type=some (.struct gs):=by
    unfold zU at hkd
    split at hkd
    ·cases hkd
    ·cases hkd
    ·rename_i gs hg;exact ⟨gs,hg⟩
    ·cases hkd
    ·cases hkd
   simp only [aiv,iL,Bool.not_eq_true',oM] at hk
   obtain ⟨⟨⟨⟨k1,k2⟩,k3⟩,k4⟩,k5⟩:=hk
   obtain ⟨inf,agB⟩:=Option.isSome_iff_exists.1 k5
   obtain ⟨a,b,ha,hb⟩:∃ a b,mI xs f.offset=some a∧mI xs (f.offset+1)=some b:=by
    simp only [kr] at hx
    split at hx
    ·rename_i a b h1 h2;exact ⟨a,b,h1,h2⟩
    ·cases hx
   obtain ⟨a',b',ha',hb'⟩:∃ a b,mI ys f.offset=some a∧mI ys (f.offset+1)=some b:=by
    simp only [kr] at hy
    split at hy
    ·rename_i a b h1 h2;exact ⟨a,b,h1,h2⟩
    ·cases hy
   obtain ⟨e1,e2⟩:=afO ha hb
   obtain ⟨e3,e4⟩:=afO ha' hb'
   have hq:=ajg (P:=P) (w:=w) (d:=d) (xs:=xs.extract f.offset (f.offset+2)) (ys:=ys.extract f.offset (f.offset+2)) _ (by simpa only [jE,iL,oM] using k3) (by rw [k2];simp [e1,e2,e3,e4])
   rw [k2] at hq
   refine fin _ _ _ (ajk w hu agB k4 xs f.offset) (ajk w hu agB k4 ys f.offset) ((run_equalIn_struct w (d+1) f.type _ _ (aAP hu) k1).trans hq) ?_
   rw [hkd,rT]
   simp [kr,ha,hb,ha',hb',e1,e2,e3,e4]
  ·rw [hkd] at hk hx hy
   have hu:P.underlying f.type=some .bool:=by unfold zU at hkd;split at hkd <;> first|assumption|cases hkd
   obtain ⟨m,hm⟩:∃ m,xs[f.offset]?=some (.bool m):=by
    simp only [kr] at hx
    split at hx
    ·rename_i s hs;exact ⟨s,hs⟩
    ·cases hx
   obtain ⟨m2,hm2⟩:∃ m,ys[f.offset]?=some (.bool m):=by
    simp only [kr] at hy
    split at hy
    ·rename_i s hs;exact ⟨s,hs⟩
    ·cases hy
   refine fin _ _ _ (run_part_plain w hk hm) (run_part_plain w hk hm2) (run_equalIn_bool' w (d+1) f.type m m2 hu) ?_
   rw [hkd,rT]
   cases m <;> cases m2 <;> simp [kr,hm,hm2]
  ·rw [hkd] at hk;cases hk
section
variable {N:Nat} {D:List Deferred} {w0:World} {F:Nat->Prop} {G0 G:GH} {L:List (Nat × Obj)} {T:List (Nat × ah)}
variable {r:Option Nat} {P:Program} {ops:Array Oper} {Q:Exit->Act->World->Prop} {rest:List Oper} {a:Act} {w:World}
variable {d:Nat} {ty:TypeId} {pos:String} {aQ:Array Edge} {g:Option (Nat × Bool)}
theorem TL {t yt:TypeId} {zi:List (Nat × Nat)} (he:Mi P t zi) {x y:Operand} {xs ys:Array ah} (H:St N D w0 F G0 G L T a w) (hw:Region.wanted ⟨some d,.binOp .neq t x y yt,ty,pos,aQ,g⟩ (yielded ops a.tmps)=true) (hx:ev T x=some (.agg xs)) (hy:ev T y=some (.agg ys))
  (hi:zi.all (fun o=>(kr xs o).isSome && (kr ys o).isSome)=true) (hd:Nat.blt d N=true)
  (k:∀ a',St N D w0 F G0 G L ((d,.bool (!(zi.all fun o=>kr xs o == kr ys o))) :: T) a' w->WL r P ops Q rest a' w):WL r P ops Q (⟨some d,.binOp .neq t x y yt,ty,pos,aQ,g⟩ :: rest) a w:=by
 have h1:=ajh (P:=P) (w:=w) (d:=9997) (xs:=xs) (ys:=ys) _ he.ok (by rw [he.EY];exact hi)
 rw [he.EY] at h1
 refine fQ (v:=.bool (!(zi.all fun o=>kr xs o == kr ys o))) (w':=w) hw M ?_ (k _ (H.put hd _ H.hp))
 simp only [execOp,H.ev hx,H.ev hy,dU,run_eqGuard_agg w .neq t x y xs ys he.guard,nS,run_neq_struct,run_equalIn_struct w 9999 t xs ys he.und he.held,h1]
 rfl
end
end
theorem aqs:aS 50:=aT func50 M
theorem aol:aS 107:=aT func107 M
theorem aoj:aS 105:=aT func105 M
theorem aqr:aS 49:=aT func49 M
theorem aok:aS 106:=aT func106 M
theorem Qv (p q:ByteArray):p.toList=q.toList↔p=q:=by
 rw [<- bytes_beq,beq_iff_eq]
theorem bV.eq_iff (a b:bV):(a.id=b.id∧a.author=b.author∧a.time=b.time)↔a=b:=by cases a;cases b;simp
theorem jW.eq_iff (a b:jW):(a.fmt=b.fmt∧a.start=b.start∧a.zq=b.zq∧a.restart=b.restart)↔a=b:=by cases a;cases b;simp
theorem gF.eq_iff (a b:gF):(a.id=b.id∧a.parent=b.parent∧a.author=b.author∧a.time=b.time∧a.text=b.text∧a.done=b.done)↔a=b:=by cases a;cases b;simp
theorem jk.eq_iff (a b:jk):(a.name=b.name∧a.value=b.value)↔a=b:=by cases a;cases b;simp
theorem fC.eq_iff (a b:fC):(a.id=b.id∧a.levels=b.levels)↔a=b:=by cases a;cases b;simp
theorem bY.eq_iff (a b:bY):(((((a.id=b.id∧a.kind=b.kind)∧a.name=b.name)∧a.base=b.base)∧a.next=b.next)∧a.props=b.props)↔a=b:=by cases a;cases b;simp [and_assoc]
instance:DecidableEq bV:=fun a b=>decidable_of_iff _ (bV.eq_iff a b)
instance:DecidableEq jW:=fun a b=>decidable_of_iff _ (jW.eq_iff a b)
instance:DecidableEq gF:=fun a b=>decidable_of_iff _ (gF.eq_iff a b)
instance:DecidableEq jk:=fun a b=>decidable_of_iff _ (jk.eq_iff a b)
theorem ari:Mi prog 102 [(0,0),(1,1),(2,0)]:=⟨V,V,V,V,V⟩
theorem arh:Mi prog 96 [(0,0),(1,0),(2,1),(3,0)]:=⟨V,V,V,V,V⟩
theorem arf:Mi prog 107 [(0,0),(1,0),(2,1),(3,0),(4,1),(5,3)]:=⟨V,V,V,V,V⟩
theorem arj:Mi prog 110 [(0,1),(1,1)]:=⟨V,V,V,V,V⟩
theorem azA (a b:bV):([(0,0),(1,1),(2,0)].all fun o=>kr (bV.cells a).toArray o == kr (bV.cells b).toArray o)=decide (a=b):=by
 rw [rT,decide_eq_true_iff,<- bV.eq_iff]
 simp [kr,mI,Qv]
theorem azz (a b:jW):([(0,0),(1,0),(2,1),(3,0)].all fun o=>kr (jW.cells a).toArray o == kr (jW.cells b).toArray o)=decide (a=b):=by
 rw [rT,decide_eq_true_iff,<- jW.eq_iff]
 simp [kr,mI,Qv]
theorem azy (a b:gF):([(0,0),(1,0),(2,1),(3,0),(4,1),(5,3)].all fun o=>kr (gF.cells a).toArray o == kr (gF.cells b).toArray o)=decide (a=b):=by
 rw [rT,decide_eq_true_iff,<- gF.eq_iff]
 cases ha:a.done <;> cases hb:b.done <;> simp [kr,mI,Qv,ha,hb]
theorem azB (a b:jk):([(0,1),(1,1)].all fun o=>kr (jk.cells a).toArray o == kr (jk.cells b).toArray o)=decide (a=b):=by
 rw [rT,decide_eq_true_iff,<- jk.eq_iff]
 simp [kr,mI,Qv]
theorem arq (G:GH) (w0:World) (hG:Hold G w0) (A B:List bV) (v u:ah) (hv:ak G (.sl 3 (A.map bV.dat)) v) (hu:ak G (.sl 3 (B.map bV.dat)) u) :
  Calls prog 53 #[v,u] w0 (bG w0 G fun r G'=>r=.bool (decide (A=B))):=by
 obtain ⟨vA,vc,rfl,hc1,hc2,hg⟩:=hv.slice;obtain ⟨uA,uc,rfl,hd1,hd2,hh⟩:=hu.slice;have hml:maxLen=9223372036854775807:=rfl;(iterate 2 rw [bS] at *);refine eN [(0,_),(1,_)] func53 M ntmps53 M M hG ?_;intro a H;refine kP H (SR fun _ K1=>aj K1 M (SQ fun _ K2=>SR fun _ K3=>Rm M (Rl om M (Rm M (Rl om M (Rc M (Kz K3 (Cd M ?_ ?_)))))))) <;> clear H K1 K3
 ·intro h10 a H
  try have jc:=dT h10
  exact kP H (SR fun _ K4=>aj K4 M (LR results53 M fun H=>H.rt (gH (mY fun e=>absurd (cZ List.length e) O).symm)))
 intro h10 a H
 try have jc:=dF h10
 refine kP H (Kc K2 (SQ fun _ K5=>SR fun _ K6=>Rm M (Rl om M (Rm M (Kz K6 (SB ?_))))));clear H K2 K6;intro a H;skip;refine eX (ι:=Nat × GH) (Tc:=[(0,_),(1,_),(12,_)]) (Lc:=[]) (fun gh=>[(13,vi gh.1)]) (fun gh=>[]) (fun gh=>gh.2) (fun gh=>gh.1<=A.length∧A.take gh.1=B.take gh.1∧(∀ b o,G b=some o->gh.2 b=some o)) (fun gh=>A.length - gh.1) ((0,G)) (by exact H.sub ⟨M,M,M,M,aB⟩) ?_ ?_
 ·exact rU
 clear H;rintro ⟨k,g⟩ a w hI H;dsimp only at hI H;obtain ⟨hk,hsame,hgm⟩:=hI;dsimp only [lca,bM] at H;refine kP H (SR fun _ K7=>Rc M (Kz K7 (SQ fun _ K8=>Cd M ?_ ?_))) <;> clear H K7
 ·intro eO a H
  try have lS:=dT eO
  have hk2:k < A.length:=by omega
  have hk3:k < B.length:=by omega
  obtain ⟨b1,o1,cs1,rfl,AX,oF,hr1⟩:=hg k A[k].dat (by simp [hk2]);obtain rfl:=OJ hr1;obtain ⟨b2,o2,cs2,rfl,AY,hrow2,hr2⟩:=hh k B[k].dat (by simp [hk3]);obtain rfl:=OJ hr2;refine kP H (Kc K8 (SQ fun _ K9=>SB (SR fun _ aR=>Rm M (aj aR M (SQ fun _ bq=>?_)))));clear H K8 aR;intro a H;refine dI hmx [[],[],[0,1],[0,1,2],[],[],[4,5],[4,5,6],ra 0 8] [] V [_,_,_,.agg (bV.cells A[k]).toArray,_,_,_,.agg (bV.cells B[k]).toArray,.bool (!decide (A[k]=B[k]))] H (ay (Z0 M (Rm M)) (Z0 M (Rm M)) (Z2 0 16 1 17 M (Ri om oh M M)) ?_ (ay (Z0 M (Rm M)) (Z0 M (Rm M)) (Z2 4 20 5 21 M (Ri om oh M M)) ?_ (bN ?_ dB))) ?_
  ·refine gN 2 18 M M fun _ a w G1 hG HT H fin=>?_;refine aU oh (cs:=bV.cells A[k]) H wn M M (fun j v hj=>H.hp.aH (aC hG (aC hgm (oF j v hj)))) M ?_;exact jG
  ·refine gN 6 22 M M fun _ a w G1 hG HT H fin=>?_;refine aU oh (cs:=bV.cells B[k]) H wn M M (fun j v hj=>H.hp.aH (aC hG (aC hgm (hrow2 j v hj)))) M ?_;exact jG
  ·refine eT 3 19 7 23 M M fun _ a w G1 hG HT H fin=>?_;refine TL ari H wn M M M M ?_;clear H;intro a H;exact fin H iJ (cZ (fun b=>Value.bool !b) (azA A[k] B[k]))
  clear H;intro a w G jS H hv;have H:=H.aN (hv 8 24 M M) M;clear hv;refine aG ⟨M,?_⟩;refine bq _ _ ?_;clear bq;refine jw H M ?_ ?_
  ·intro cK
   exact kP H (SR fun _ bP=>aj bP M (LR results53 M fun H=>H.rt (gH (mY fun e=>absurd cK (by subst e;simp)).symm)))
  exact GL
 intro eO a H
 try have lS:=dF eO
 refine dQ ?_;refine K5 _ _ ?_;clear K5;exact kP H (SR fun _ bU=>aj bU M (LR results53 M fun H=>H.rt (gH (mP (by rw [jF O,jF O] at hsame;exact hsame)).symm)))
theorem arp (G:GH) (w0:World) (hG:Hold G w0) (A B:List jW) (v u:ah) (hv:ak G (.sl 4 (A.map jW.dat)) v) (hu:ak G (.sl 4 (B.map jW.dat)) u) :
  Calls prog 50 #[v,u] w0 (bG w0 G fun r G'=>r=.bool (decide (A=B))):=by
 obtain ⟨vA,vc,rfl,hc1,hc2,hg⟩:=hv.slice;obtain ⟨uA,uc,rfl,hd1,hd2,hh⟩:=hu.slice;have hml:maxLen=9223372036854775807:=rfl;(iterate 2 rw [bS] at *);refine eN [(0,_),(1,_)] func50 M ntmps50 M M hG ?_;intro a H;refine kP H (SR fun _ K1=>aj K1 M (SQ fun _ K2=>SR fun _ K3=>Rm M (Rl zu M (Rm M (Rl zu M (Rc M (Kz K3 (Cd M ?_ ?_)))))))) <;> clear H K1 K3
 ·intro h10 a H
  try have jc:=dT h10
  exact kP H (SR fun _ K4=>aj K4 M (LR results50 M fun H=>H.rt (gH (mY fun e=>absurd (cZ List.length e) O).symm)))
 intro h10 a H
 try have jc:=dF h10
 refine kP H (Kc K2 (SQ fun _ K5=>SR fun _ K6=>Rm M (Rl zu M (Rm M (Kz K6 (SB ?_))))));clear H K2 K6;intro a H;skip;refine eX (ι:=Nat × GH) (Tc:=[(0,_),(1,_),(12,_)]) (Lc:=[]) (fun gh=>[(13,vi gh.1)]) (fun gh=>[]) (fun gh=>gh.2) (fun gh=>gh.1<=A.length∧A.take gh.1=B.take gh.1∧(∀ b o,G b=some o->gh.2 b=some o)) (fun gh=>A.length - gh.1) ((0,G)) (by exact H.sub ⟨M,M,M,M,aB⟩) ?_ ?_
 ·exact rU
 clear H;rintro ⟨k,g⟩ a w hI H;dsimp only at hI H;obtain ⟨hk,hsame,hgm⟩:=hI;dsimp only [lca,bM] at H;refine kP H (SR fun _ K7=>Rc M (Kz K7 (SQ fun _ K8=>Cd M ?_ ?_))) <;> clear H K7
 ·intro eO a H
  try have lS:=dT eO
  have hk2:k < A.length:=by omega
  have hk3:k < B.length:=by omega
  obtain ⟨b1,o1,cs1,rfl,AX,oF,hr1⟩:=hg k A[k].dat (by simp [hk2]);obtain rfl:=Y2 hr1;obtain ⟨b2,o2,cs2,rfl,AY,hrow2,hr2⟩:=hh k B[k].dat (by simp [hk3]);obtain rfl:=Y2 hr2;refine kP H (Kc K8 (SQ fun _ K9=>SB (SR fun _ aR=>Rm M (aj aR M (SQ fun _ bq=>?_)))));clear H K8 aR;intro a H;refine dI hmx [[],[],[0,1],[0,1,2],[],[],[4,5],[4,5,6],ra 0 8] [] V [_,_,_,.agg (jW.cells A[k]).toArray,_,_,_,.agg (jW.cells B[k]).toArray,.bool (!decide (A[k]=B[k]))] H (ay (Z0 M (Rm M)) (Z0 M (Rm M)) (Z2 0 16 1 17 M (Ri zu BD M M)) ?_ (ay (Z0 M (Rm M)) (Z0 M (Rm M)) (Z2 4 20 5 21 M (Ri zu BD M M)) ?_ (bN ?_ dB))) ?_
  ·refine gN 2 18 M M fun _ a w G1 hG HT H fin=>?_;refine aU BD (cs:=jW.cells A[k]) H wn M M (fun j v hj=>H.hp.aH (aC hG (aC hgm (oF j v hj)))) M ?_;exact jG
  ·refine gN 6 22 M M fun _ a w G1 hG HT H fin=>?_;refine aU BD (cs:=jW.cells B[k]) H wn M M (fun j v hj=>H.hp.aH (aC hG (aC hgm (hrow2 j v hj)))) M ?_;exact jG
  ·refine eT 3 19 7 23 M M fun _ a w G1 hG HT H fin=>?_;refine TL arh H wn M M M M ?_;clear H;intro a H;exact fin H iJ (cZ (fun b=>Value.bool !b) (azz A[k] B[k]))
  clear H;intro a w G jS H hv;have H:=H.aN (hv 8 24 M M) M;clear hv;refine aG ⟨M,?_⟩;refine bq _ _ ?_;clear bq;refine jw H M ?_ ?_
  ·intro cK
   exact kP H (SR fun _ bP=>aj bP M (LR results50 M fun H=>H.rt (gH (mY fun e=>absurd cK (by subst e;simp)).symm)))
  exact GL
 intro eO a H
 try have lS:=dF eO
 refine dQ ?_;refine K5 _ _ ?_;clear K5;exact kP H (SR fun _ bU=>aj bU M (LR results50 M fun H=>H.rt (gH (mP (by rw [jF O,jF O] at hsame;exact hsame)).symm)))
theorem aro (G:GH) (w0:World) (hG:Hold G w0) (A B:List gF) (v u:ah) (hv:ak G (.sl 6 (A.map gF.dat)) v) (hu:ak G (.sl 6 (B.map gF.dat)) u) :
  Calls prog 56 #[v,u] w0 (bG w0 G fun r G'=>r=.bool (decide (A=B))):=by
 obtain ⟨vA,vc,rfl,hc1,hc2,hg⟩:=hv.slice;obtain ⟨uA,uc,rfl,hd1,hd2,hh⟩:=hu.slice;have hml:maxLen=9223372036854775807:=rfl;(iterate 2 rw [bS] at *);refine eN [(0,_),(1,_)] func56 M ntmps56 M M hG ?_;intro a H;refine kP H (SR fun _ K1=>aj K1 M (SQ fun _ K2=>SR fun _ K3=>Rm M (Rl vE M (Rm M (Rl vE M (Rc M (Kz K3 (Cd M ?_ ?_)))))))) <;> clear H K1 K3
 ·intro h10 a H
  try have jc:=dT h10
  exact kP H (SR fun _ K4=>aj K4 M (LR results56 M fun H=>H.rt (gH (mY fun e=>absurd (cZ List.length e) O).symm)))
 intro h10 a H
 try have jc:=dF h10
 refine kP H (Kc K2 (SQ fun _ K5=>SR fun _ K6=>Rm M (Rl vE M (Rm M (Kz K6 (SB ?_))))));clear H K2 K6;intro a H;skip;refine eX (ι:=Nat × GH) (Tc:=[(0,_),(1,_),(12,_)]) (Lc:=[]) (fun gh=>[(13,vi gh.1)]) (fun gh=>[]) (fun gh=>gh.2) (fun gh=>gh.1<=A.length∧A.take gh.1=B.take gh.1∧(∀ b o,G b=some o->gh.2 b=some o)) (fun gh=>A.length - gh.1) ((0,G)) (by exact H.sub ⟨M,M,M,M,aB⟩) ?_ ?_
 ·exact rU
 clear H;rintro ⟨k,g⟩ a w hI H;dsimp only at hI H;obtain ⟨hk,hsame,hgm⟩:=hI;dsimp only [lca,bM] at H;refine kP H (SR fun _ K7=>Rc M (Kz K7 (SQ fun _ K8=>Cd M ?_ ?_))) <;> clear H K7
 ·intro eO a H
  try have lS:=dT eO
  have hk2:k < A.length:=by omega
  have hk3:k < B.length:=by omega
  obtain ⟨b1,o1,cs1,rfl,AX,oF,hr1⟩:=hg k A[k].dat (by simp [hk2]);obtain rfl:=QD hr1;obtain ⟨b2,o2,cs2,rfl,AY,hrow2,hr2⟩:=hh k B[k].dat (by simp [hk3]);obtain rfl:=QD hr2;refine kP H (Kc K8 (SQ fun _ K9=>SB (SR fun _ aR=>Rm M (aj aR M (SQ fun _ bq=>?_)))));clear H K8 aR;intro a H;refine dI hmx [[],[],[0,1],[0,1,2],[],[],[4,5],[4,5,6],ra 0 8] [] V [_,_,_,.agg (gF.cells A[k]).toArray,_,_,_,.agg (gF.cells B[k]).toArray,.bool (!decide (A[k]=B[k]))] H (ay (Z0 M (Rm M)) (Z0 M (Rm M)) (Z2 0 16 1 17 M (Ri vE wZ M M)) ?_ (ay (Z0 M (Rm M)) (Z0 M (Rm M)) (Z2 4 20 5 21 M (Ri vE wZ M M)) ?_ (bN ?_ dB))) ?_
  ·refine gN 2 18 M M fun _ a w G1 hG HT H fin=>?_;refine aU wZ (cs:=gF.cells A[k]) H wn M M (fun j v hj=>H.hp.aH (aC hG (aC hgm (oF j v hj)))) M ?_;exact jG
  ·refine gN 6 22 M M fun _ a w G1 hG HT H fin=>?_;refine aU wZ (cs:=gF.cells B[k]) H wn M M (fun j v hj=>H.hp.aH (aC hG (aC hgm (hrow2 j v hj)))) M ?_;exact jG
  ·refine eT 3 19 7 23 M M fun _ a w G1 hG HT H fin=>?_;refine TL arf H wn M M M M ?_;clear H;intro a H;exact fin H iJ (cZ (fun b=>Value.bool !b) (azy A[k] B[k]))
  clear H;intro a w G jS H hv;have H:=H.aN (hv 8 24 M M) M;clear hv;refine aG ⟨M,?_⟩;refine bq _ _ ?_;clear bq;refine jw H M ?_ ?_
  ·intro cK
   exact kP H (SR fun _ bP=>aj bP M (LR results56 M fun H=>H.rt (gH (mY fun e=>absurd cK (by subst e;simp)).symm)))
  exact GL
 intro eO a H
 try have lS:=dF eO
 refine dQ ?_;refine K5 _ _ ?_;clear K5;exact kP H (SR fun _ bU=>aj bU M (LR results56 M fun H=>H.rt (gH (mP (by rw [jF O,jF O] at hsame;exact hsame)).symm)))
theorem ars (G:GH) (w0:World) (hG:Hold G w0) (A B:List jk) (v u:ah) (hv:ak G (.sl 2 (A.map jk.dat)) v) (hu:ak G (.sl 2 (B.map jk.dat)) u) :
  Calls prog 57 #[v,u] w0 (bG w0 G fun r G'=>r=.bool (decide (A=B))):=by
 obtain ⟨vA,vc,rfl,hc1,hc2,hg⟩:=hv.slice;obtain ⟨uA,uc,rfl,hd1,hd2,hh⟩:=hu.slice;have hml:maxLen=9223372036854775807:=rfl;(iterate 2 rw [bS] at *);refine eN [(0,_),(1,_)] func57 M ntmps57 M M hG ?_;intro a H;refine kP H (SR fun _ K1=>aj K1 M (SQ fun _ K2=>SR fun _ K3=>Rm M (Rl sH M (Rm M (Rl sH M (Rc M (Kz K3 (Cd M ?_ ?_)))))))) <;> clear H K1 K3
 ·intro h10 a H
  try have jc:=dT h10
  exact kP H (SR fun _ K4=>aj K4 M (LR results57 M fun H=>H.rt (gH (mY fun e=>absurd (cZ List.length e) O).symm)))
 intro h10 a H
 try have jc:=dF h10
 refine kP H (Kc K2 (SQ fun _ K5=>SR fun _ K6=>Rm M (Rl sH M (Rm M (Kz K6 (SB ?_))))));clear H K2 K6;intro a H;skip;refine eX (ι:=Nat × GH) (Tc:=[(0,_),(1,_),(12,_)]) (Lc:=[]) (fun gh=>[(13,vi gh.1)]) (fun gh=>[]) (fun gh=>gh.2) (fun gh=>gh.1<=A.length∧A.take gh.1=B.take gh.1∧(∀ b o,G b=some o->gh.2 b=some o)) (fun gh=>A.length - gh.1) ((0,G)) (by exact H.sub ⟨M,M,M,M,aB⟩) ?_ ?_
 ·exact rU
 clear H;rintro ⟨k,g⟩ a w hI H;dsimp only at hI H;obtain ⟨hk,hsame,hgm⟩:=hI;dsimp only [lca,bM] at H;refine kP H (SR fun _ K7=>Rc M (Kz K7 (SQ fun _ K8=>Cd M ?_ ?_))) <;> clear H K7
 ·intro eO a H
  try have lS:=dT eO
  have hk2:k < A.length:=by omega
  have hk3:k < B.length:=by omega
  obtain ⟨b1,o1,cs1,rfl,AX,oF,hr1⟩:=hg k A[k].dat (by simp [hk2]);obtain rfl:=aal hr1;obtain ⟨b2,o2,cs2,rfl,AY,hrow2,hr2⟩:=hh k B[k].dat (by simp [hk3]);obtain rfl:=aal hr2;refine kP H (Kc K8 (SQ fun _ K9=>SB (SR fun _ aR=>Rm M (aj aR M (SQ fun _ bq=>?_)))));clear H K8 aR;intro a H;refine dI hmx [[],[],[0,1],[0,1,2],[],[],[4,5],[4,5,6],ra 0 8] [] V [_,_,_,.agg (jk.cells A[k]).toArray,_,_,_,.agg (jk.cells B[k]).toArray,.bool (!decide (A[k]=B[k]))] H (ay (Z0 M (Rm M)) (Z0 M (Rm M)) (Z2 0 16 1 17 M (Ri sH xg M M)) ?_ (ay (Z0 M (Rm M)) (Z0 M (Rm M)) (Z2 4 20 5 21 M (Ri sH xg M M)) ?_ (bN ?_ dB))) ?_
  ·refine gN 2 18 M M fun _ a w G1 hG HT H fin=>?_;refine aU xg (cs:=jk.cells A[k]) H wn M M (fun j v hj=>H.hp.aH (aC hG (aC hgm (oF j v hj)))) M ?_;exact jG
  ·refine gN 6 22 M M fun _ a w G1 hG HT H fin=>?_;refine aU xg (cs:=jk.cells B[k]) H wn M M (fun j v hj=>H.hp.aH (aC hG (aC hgm (hrow2 j v hj)))) M ?_;exact jG
  ·refine eT 3 19 7 23 M M fun _ a w G1 hG HT H fin=>?_;refine TL arj H wn M M M M ?_;clear H;intro a H;exact fin H iJ (cZ (fun b=>Value.bool !b) (azB A[k] B[k]))
  clear H;intro a w G jS H hv;have H:=H.aN (hv 8 24 M M) M;clear hv;refine aG ⟨M,?_⟩;refine bq _ _ ?_;clear bq;refine jw H M ?_ ?_
  ·intro cK
   exact kP H (SR fun _ bP=>aj bP M (LR results57 M fun H=>H.rt (gH (mY fun e=>absurd cK (by subst e;simp)).symm)))
  exact GL
 intro eO a H
 try have lS:=dF eO
 refine dQ ?_;refine K5 _ _ ?_;clear K5;exact kP H (SR fun _ bU=>aj bU M (LR results57 M fun H=>H.rt (gH (mP (by rw [jF O,jF O] at hsame;exact hsame)).symm)))
instance:DecidableEq fC:=fun a b=>decidable_of_iff _ (fC.eq_iff a b)
instance:DecidableEq bY:=fun a b=>decidable_of_iff _ (bY.eq_iff a b)
theorem Sg {G:GH} {x:fC} {cs:List ah} (h:bB G x.dat cs):∃ A n c,cs=[vi x.id,.slice A n c]∧ak G (.sl 4 (x.levels.map jW.dat)) (.slice A n c):=by
 obtain ⟨v1,vs,rfl,⟨rfl,-⟩,v2,vs2,rfl,h2,rfl⟩:=h;obtain ⟨A,n,c,rfl⟩:=ak.form h2;exact ⟨A,n,c,M,h2⟩
theorem TS {G:GH} {x:bY} {cs:List ah} (h:bB G x.dat cs):∃ A n c,cs=[vi x.id,vi x.kind,.string x.name,vi x.base,vi x.next,.slice A n c]∧ak G (.sl 2 (x.props.map aO.dat)) (.slice A n c):=by
 obtain ⟨A,c,h1,h2⟩:=OW h;exact ⟨A,_,c,h1,h2⟩
theorem arb (G:GH) (w0:World) (hG:Hold G w0) (A B:List fC) (v u fv:ah) (hv:ak G (.sl 2 (A.map fC.dat)) v) (hu:ak G (.sl 2 (B.map fC.dat)) u) (hf:∀ (i:Nat) (h1:i < A.length) (h2:i < B.length),BH fv G A[i].dat B[i].dat (A[i]=B[i])) :
  Calls prog 55 #[v,u,fv] w0 (bG w0 G fun r G'=>∃ b,r=.bool b∧(b=true↔A=B)):=by
 obtain ⟨vA,vc,rfl,hc1,hc2,hg⟩:=hv.slice;obtain ⟨uA,uc,rfl,hd1,hd2,hh⟩:=hu.slice;have hml:maxLen=9223372036854775807:=rfl;(iterate 2 rw [bS] at *);refine eN [(0,_),(1,_),(2,_)] func55 M ntmps55 M M hG ?_;intro a H;refine kP H (SR fun _ K1=>aj K1 M (SQ fun _ K2=>SR fun _ K3=>Rm M (Rl tT M (Rm M (Rl tT M (Rc M (Kz K3 (Cd M ?_ ?_)))))))) <;> clear H K1 K3
 ·intro eO a H
  try have lS:=dT eO
  exact kP H (SR fun _ K4=>aj K4 M (LR results55 M fun H=>H.rt ⟨false,M,by simp only [ug,false_iff];exact fun e=>absurd (cZ List.length e) O⟩))
 intro eO a H
 try have lS:=dF eO
 refine kP H (Kc K2 (SQ fun _ K5=>SR fun _ K6=>Rm M (Rl tT M (Rm M (Kz K6 (SB ?_))))));clear H K2 K6;intro a H;skip;refine eX (ι:=Nat × GH) (Tc:=[(1,_),(2,_),(15,_),(16,_)]) (Lc:=[]) (fun gh=>[(17,vi gh.1)]) (fun gh=>[]) (fun gh=>gh.2) (fun gh=>gh.1<=A.length∧A.take gh.1=B.take gh.1∧(∀ b o,G b=some o->gh.2 b=some o)) (fun gh=>A.length - gh.1) ((0,G)) (by exact H.sub ⟨M,M,M,M,M,aB⟩) ?_ ?_
 ·exact rU
 clear H;rintro ⟨k,g⟩ a w hI H;dsimp only at hI H;obtain ⟨hk,hsame,hgm⟩:=hI;dsimp only [lca,bM] at H;refine kP H (SR fun _ K7=>Rc M (Kz K7 (SQ fun _ K8=>Cd M ?_ ?_))) <;> clear H K7
 ·intro h18 a H
  try have tN:=dT h18
  have hk2:k < A.length:=by omega
  have hk3:k < B.length:=by omega
  obtain ⟨b1,o1,cs1,rfl,AX,oF,hr1⟩:=hg k A[k].dat (by simp [hk2]);obtain ⟨pA,pn,pc,rfl,-⟩:=Sg hr1;obtain ⟨b2,o2,cs2,rfl,AY,hrow2,hr2⟩:=hh k B[k].dat (by simp [hk3]);obtain ⟨qA,qn,qc,rfl,-⟩:=Sg hr2;refine kP H (Kc K8 (SQ fun _ K9=>SB (SR fun _ aR=>Rm M (Ri tT rJ M M ?_))));clear H K8;intro a H;refine aU rJ (cs:=_) H wn M M (fun j v hj=>H.hp.aH (aC hgm (oF j v hj))) M ?_;clear H;intro a H;refine dJ rJ H wn M ?_;clear H;intro b8 a w DU H;refine kH H (Ra M ?_);clear H;intro a H;refine bC rJ 0 (vs:=[_,_]) H wn M ?_;clear H;intro w H;refine aR _ _ ?_;clear aR;refine kP H (SR fun _ bq=>Rm M (Rm M (Ri tT rJ M M ?_)));clear H;intro a H;refine aU rJ (cs:=_) H wn M M (fun j v hj=>H.hp.aH (aC hgm (hrow2 j v hj))) M ?_;clear H;intro a H;refine dJ rJ H wn M ?_;clear H;intro b9 a w uz H;refine bC rJ 0 (vs:=[_,_]) H wn M ?_;clear H;intro w H;refine bq _ _ ?_;clear bq;refine kP H (SR fun _ bP=>Rm M ?_);clear H;intro a H;refine aU rJ (cs:=[_,_]) H wn M M (H.hp.cB 1 M M) M ?_;clear H;intro a H;refine aU rJ (cs:=[_,_]) H wn M M (H.hp.cB 0 M M) M ?_;clear H;intro a H;refine jO H wn M M (hf k hk2 hk3 _ _ _ _ hgm H.ro (hr1.mono hgm) (hr2.mono hgm)) M ?_;clear H;rintro v29 F3 a w ⟨Qe,rfl,Cu⟩ Fb H;refine kH H (Rn M (Kz bP (Cd M ?_ ?_))) <;> clear H bP
  ·intro jl a H
   exact kP H (SR fun _ bU=>aj bU M (LR results55 M fun H=>H.rt ⟨false,M,by simp only [ug,false_iff];rintro rfl;exact absurd (Cu.2 M) (by simpa using jl)⟩))
  exact MV
 intro h18 a H
 try have tN:=dF h18
 refine dQ ?_;refine K5 _ _ ?_;clear K5;exact kP H (SR fun _ dh=>aj dh M (LR results55 M fun H=>H.rt ⟨true,M,by rw [jF O,jF O] at hsame;simpa using hsame⟩))
theorem ard (G:GH) (w0:World) (hG:Hold G w0) (A B:List bY) (v u fv:ah) (hv:ak G (.sl 6 (A.map bY.dat)) v) (hu:ak G (.sl 6 (B.map bY.dat)) u) (hf:∀ (i:Nat) (h1:i < A.length) (h2:i < B.length),BH fv G A[i].dat B[i].dat (A[i]=B[i])) :
  Calls prog 105 #[v,u,fv] w0 (bG w0 G fun r G'=>∃ b,r=.bool b∧(b=true↔A=B)):=by
 obtain ⟨vA,vc,rfl,hc1,hc2,hg⟩:=hv.slice;obtain ⟨uA,uc,rfl,hd1,hd2,hh⟩:=hu.slice;have hml:maxLen=9223372036854775807:=rfl;(iterate 2 rw [bS] at *);refine eN [(0,_),(1,_),(2,_)] func105 M ntmps105 M M hG ?_;intro a H;refine kP H (SR fun _ K1=>aj K1 M (SQ fun _ K2=>SR fun _ K3=>Rm M (Rl lJ M (Rm M (Rl lJ M (Rc M (Kz K3 (Cd M ?_ ?_)))))))) <;> clear H K1 K3
 ·intro eO a H
  try have lS:=dT eO
  exact kP H (SR fun _ K4=>aj K4 M (LR results105 M fun H=>H.rt ⟨false,M,by simp only [ug,false_iff];exact fun e=>absurd (cZ List.length e) O⟩))
 intro eO a H
 try have lS:=dF eO
 refine kP H (Kc K2 (SQ fun _ K5=>SR fun _ K6=>Rm M (Rl lJ M (Rm M (Kz K6 (SB ?_))))));clear H K2 K6;intro a H;skip;refine eX (ι:=Nat × GH) (Tc:=[(1,_),(2,_),(15,_),(16,_)]) (Lc:=[]) (fun gh=>[(17,vi gh.1)]) (fun gh=>[]) (fun gh=>gh.2) (fun gh=>gh.1<=A.length∧A.take gh.1=B.take gh.1∧(∀ b o,G b=some o->gh.2 b=some o)) (fun gh=>A.length - gh.1) ((0,G)) (by exact H.sub ⟨M,M,M,M,M,aB⟩) ?_ ?_
 ·exact rU
 clear H;rintro ⟨k,g⟩ a w hI H;dsimp only at hI H;obtain ⟨hk,hsame,hgm⟩:=hI;dsimp only [lca,bM] at H;refine kP H (SR fun _ K7=>Rc M (Kz K7 (SQ fun _ K8=>Cd M ?_ ?_))) <;> clear H K7
 ·intro h18 a H
  try have tN:=dT h18
  have hk2:k < A.length:=by omega
  have hk3:k < B.length:=by omega
  obtain ⟨b1,o1,cs1,rfl,AX,oF,hr1⟩:=hg k A[k].dat (by simp [hk2]);obtain ⟨pA,pn,pc,rfl,-⟩:=TS hr1;obtain ⟨b2,o2,cs2,rfl,AY,hrow2,hr2⟩:=hh k B[k].dat (by simp [hk3]);obtain ⟨qA,qn,qc,rfl,-⟩:=TS hr2;refine kP H (Kc K8 (SQ fun _ K9=>SB (SR fun _ aR=>Rm M (Ri lJ jf M M ?_))));clear H K8;intro a H;refine aU jf (cs:=_) H wn M M (fun j v hj=>H.hp.aH (aC hgm (oF j v hj))) M ?_;clear H;intro a H;refine dJ jf H wn M ?_;clear H;intro b8 a w DU H;refine kH H (Ra M ?_);clear H;intro a H;refine bC jf 0 (vs:=[_,_,_,_,_,_]) H wn M ?_;clear H;intro w H;refine aR _ _ ?_;clear aR;refine kP H (SR fun _ bq=>Rm M (Rm M (Ri lJ jf M M ?_)));clear H;intro a H;refine aU jf (cs:=_) H wn M M (fun j v hj=>H.hp.aH (aC hgm (hrow2 j v hj))) M ?_;clear H;intro a H;refine dJ jf H wn M ?_;clear H;intro b9 a w uz H;refine bC jf 0 (vs:=[_,_,_,_,_,_]) H wn M ?_;clear H;intro w H;refine bq _ _ ?_;clear bq;refine kP H (SR fun _ bP=>Rm M ?_);clear H;intro a H;refine aU jf (cs:=[_,_,_,_,_,_]) H wn M M (H.hp.cB 1 M M) M ?_;clear H;intro a H;refine aU jf (cs:=[_,_,_,_,_,_]) H wn M M (H.hp.cB 0 M M) M ?_;clear H;intro a H;refine jO H wn M M (hf k hk2 hk3 _ _ _ _ hgm H.ro (hr1.mono hgm) (hr2.mono hgm)) M ?_;clear H;rintro v29 F3 a w ⟨Qe,rfl,Cu⟩ Fb H;refine kH H (Rn M (Kz bP (Cd M ?_ ?_))) <;> clear H bP
  ·intro jl a H
   exact kP H (SR fun _ bU=>aj bU M (LR results105 M fun H=>H.rt ⟨false,M,by simp only [ug,false_iff];rintro rfl;exact absurd (Cu.2 M) (by simpa using jl)⟩))
  exact MV
 intro h18 a H
 try have tN:=dF h18
 refine dQ ?_;refine K5 _ _ ?_;clear K5;exact kP H (SR fun _ dh=>aj dh M (LR results105 M fun H=>H.rt ⟨true,M,by rw [jF O,jF O] at hsame;simpa using hsame⟩))
theorem aqV (G:GH) (x y:fC):BH (.func (.func 49) #[] #[]) G x.dat y.dat (x=y):=by
 intro G1 w0 cs cs' hm hG h1 h2;refine jy (caps:=[]) aqr ?_;obtain ⟨pA,pn,pc,rfl,hp1⟩:=Sg h1;obtain ⟨qA,qn,qc,rfl,hp2⟩:=Sg h2;have he:=fC.eq_iff x y;refine eN [(0,_),(1,_)] func49 M ntmps49 M M hG ?_;intro a H;refine dz (fun _ K1=>?_);refine dR (cs:=[_,_]) H wn M M M ?_;clear H;intro b2 a w hb2 H;refine dR (cs:=[_,_]) H wn M M M ?_;clear H;intro b3 a w hb3 H;refine kH H (aj K1 M (SR fun _ K2=>bQ QZ aF 1 M M (bQ QZ aF 0 M M (Rc M (Rm M (Sp 10 M ?_ ?_)))))) <;> clear H K1
 ·intro h10 a H
  try have jc:=dT h10
  refine kH H (YF NC h10 M (YO O4 1 h10 M (YF NC h10 M (YO O4 0 h10 M ?_))));clear H;intro a H;refine s_call aqs H (wg H M M h10) M (arp _ _ H.ro x.levels y.levels _ _ hp1 hp2) M ?_;clear H;rintro v15 Dg a w rfl A9 H;exact kH H (Pt h10 M (aj K2 M (LR results49 M fun H=>H.rt ⟨_,M,by rw [<- he];simp_all⟩)))
 intro h10 a H
 try have jc:=dF h10
 exact kH H (aP h10 M (aL h10 M (Pf h10 M (aj K2 M (LR results49 M fun H=>H.rt ⟨_,M,by rw [<- he];simp_all⟩)))))
theorem aqW (G:GH) (w0:World) (hG:Hold G w0) (A B:List aO) (v u:ah) (hv:ak G (.sl 2 (A.map aO.dat)) v) (hu:ak G (.sl 2 (B.map aO.dat)) u) :
  Calls prog 107 #[v,u] w0 (bG w0 G fun r G'=>r=.bool (decide (A=B))):=by
 refine eN [(0,_),(1,_)] func107 M ntmps107 M M hG ?_;intro a H;refine kP H (SR fun _ K1=>aj K1 M (SR fun _ K2=>Rm M (Rm M ?_)));clear H K1;intro a H;refine s_call aeD H wn M (afg _ _ H.ro A B _ _ hv hu) M ?_;clear H;rintro v7 G7 a w rfl uG H;exact kH H (aj K2 M (LR results107 M fun H=>H.rt M))
theorem aqZ (G:GH) (x y:bY):BH (.func (.func 106) #[] #[]) G x.dat y.dat (x=y):=by
 intro G1 w0 cs cs' hm hG h1 h2;refine jy (caps:=[]) aok ?_;obtain ⟨pA,pn,pc,rfl,hp1⟩:=TS h1;obtain ⟨qA,qn,qc,rfl,hp2⟩:=TS h2;have he:=bY.eq_iff x y;refine eN [(0,_),(1,_)] func106 M ntmps106 M M hG ?_;intro a H;refine dz (fun _ K1=>?_);refine dR (cs:=[_,_,_,_,_,_]) H wn M M M ?_;clear H;intro b2 a w hb2 H;refine dR (cs:=[_,_,_,_,_,_]) H wn M M M ?_;clear H;intro b3 a w hb3 H;refine kH H (aj K1 M (SR fun _ K2=>bQ vV aF 1 M M (bQ vV aF 0 M M (Rc M (Rm M (Sp 10 M ?_ ?_)))))) <;> clear H K1
 ·intro h10 a H
  try have jc:=dT h10
  refine kH H (YF xQ h10 M (YO aF 1 h10 M (YF xQ h10 M (YO aF 0 h10 M (YC h10 M (Pt h10 M (Rm M (Sp 17 M ?_ ?_)))))))) <;> clear H
  ·intro cu a H
   try have lI:=dT cu
   refine kH H (YF ER cu M (YO iP 1 cu M (YF ER cu M (YO iP 0 cu M ?_))));clear H;intro a H;refine CV H (wg H M M cu) M M M ?_;clear H;intro a H;rw [show (x.name.toList == y.name.toList)=decide (x.name=y.name) by rw [rT,bytes_beq,decide_eq_true_iff]] at H;refine kH H (Pt cu M (Rm M (Sp 24 M ?_ ?_))) <;> clear H
   ·intro cK a H
    try have kV:=dT cK
    refine kH H (YF Nu cK M (YO aF 1 cK M (YF Nu cK M (YO aF 0 cK M (YC cK M (Pt cK M (Rm M (Sp 31 M ?_ ?_)))))))) <;> clear H
    ·intro h31 a H
     try have p31:=dT h31
     refine kH H (YF J6 h31 M (YO aF 1 h31 M (YF J6 h31 M (YO aF 0 h31 M (YC h31 M (Pt h31 M (Rm M (Sp 38 M ?_ ?_)))))))) <;> clear H
     ·intro fU a H
      try have p38:=dT fU
      refine kH H (YF J7 fU M (YO tO 1 fU M (YF J7 fU M (YO tO 0 fU M ?_))));clear H;intro a H;refine s_call aol H (wg H M M fU) M (aqW _ _ H.ro x.props y.props _ _ hp1 hp2) M ?_;clear H;rintro v43 Mq a w rfl D7 H;exact kH H (Pt fU M (aj K2 M (LR results106 M fun H=>H.rt ⟨_,M,by rw [<- he];simp_all⟩)))
     intro fU a H
     try have p38:=dF fU
     exact kH H (aP fU M (aL fU M (Pf fU M (aj K2 M (LR results106 M fun H=>H.rt ⟨_,M,by rw [<- he];simp_all⟩)))))
    intro h31 a H
    try have p31:=dF h31
    exact kH H (aP h31 M (aL h31 M (Pf h31 M (Rm M (aP M M (aL M M (Pf M M (aj K2 M (LR results106 M fun H=>H.rt ⟨_,M,by rw [<- he];simp_all⟩)))))))))
   intro cK a H
   try have kV:=dF cK
   exact kH H (aP cK M (aL cK M (Pf cK M (Rm M (aP M M (aL M M (Pf M M (Rm M (aP M M (aL M M (Pf M M (aj K2 M (LR results106 M fun H=>H.rt ⟨_,M,by rw [<- he];simp_all⟩)))))))))))))
  intro cu a H
  try have lI:=dF cu
  exact kH H (aP cu M (aL cu M (Pf cu M (Rm M (aP M M (aL M M (Pf M M (Rm M (aP M M (aL M M (Pf M M (Rm M (aP M M (aL M M (Pf M M (aj K2 M (LR results106 M fun H=>H.rt ⟨_,M,by rw [<- he];simp_all⟩)))))))))))))))))
 intro h10 a H
 try have jc:=dF h10
 exact kH H (aP h10 M (aL h10 M (Pf h10 M (Rm M (aP M M (aL M M (Pf M M (Rm M (aP M M (aL M M (Pf M M (Rm M (aP M M (aL M M (Pf M M (Rm M (aP M M (aL M M (Pf M M (aj K2 M (LR results106 M fun H=>H.rt ⟨_,M,by rw [<- he];simp_all⟩)))))))))))))))))))))
theorem aqY (G:GH) (w0:World) (hG:Hold G w0) (A B:List bY) (v u:ah) (hv:ak G (.sl 6 (A.map bY.dat)) v) (hu:ak G (.sl 6 (B.map bY.dat)) u) :
  Calls prog 54 #[v,u] w0 (bG w0 G fun r G'=>∃ b,r=.bool b∧(b=true↔A=B)):=by
 refine eN [(0,_),(1,_)] func54 M ntmps54 M M hG ?_;intro a H;refine kP H (SR fun _ K1=>aj K1 M (SR fun _ K2=>Rm M (Rm M ?_)));clear H K1;intro a H;refine s_call aoj H wn M (ard _ _ H.ro A B _ _ _ hv hu (fun i h1 h2=>aqZ _ _ _)) M ?_;clear H;rintro v7 G7 a w ⟨b7,rfl,xV⟩ uG H;exact kH H (aj K2 M (LR results54 M fun H=>H.rt ⟨_,M,xV⟩))
section
section
variable {N:Nat} {D:List Deferred} {w0:World} {F:Nat->Prop} {G0 G G1 G2:GH} {L L1 L2:OL} {T Xs:List (Nat × ah)}
variable {r:Option Nat} {P:Program} {Q:Exit->Act->World->Prop} {l:List Oper} {a a':Act} {w w':World}
theorem amj {id:Nat} (hm:P.follows .mixedOrders=true) (bJ:List (List Nat)) (B:List Nat) (hk:xO l bJ=true) (hB:wC l bJ B=true) (m1 m2 m3:Nat) (agL:B.contains m1=false) (agM:B.contains m2=false) (X5:B.contains m3=false) (hne:Nat.beq m1 m2=false) (hne1:Nat.beq m1 m3=false) (hne2:Nat.beq m2 m3=false) (fT:(bJ.getD m3 []).contains m1=true) (h23:(bJ.getD m3 []).contains m2=true) (Zg OD Zh:Obj) (pr:Nat->Nat->Nat->ah->GH->Prop)
  (hp1:∀ b b' c i v G,Nat.beq i m1=false->(bJ.getD i []).contains m1=false->pr b c i v G->pr b' c i v G)
  (hp2:∀ b c c' i v G,Nat.beq i m2=false->(bJ.getD i []).contains m2=false->pr b c i v G->pr b c' i v G)
  (H:St N D w0 F G0 G L T a w)
  (hstep:allI (fun i o=>∀ b c L' S a w G1,(∀ x,x∈L->x∈L')->B.contains i=false->Nat.beq i m1=false->Nat.beq i m2=false->Nat.beq i m3=false->S i=false->(∀ j∈bJ.getD i [],S j=true)->(∀ k o,G k=some o->G1 k=some o)->St N D w0 F G0 G1 L' T a w->(∀ i d,S i=true->dV l i=some d->∃ v,a.tmps[d]?=some v∧pr b c i v G1) ->
   WL r P l.toArray (fun e a' w'=>e=.normal∧DX N D w0 F G0 G L' T l (pr b c) (cO S i) a' w') [o] a w) 0 l)
  (X6:∀ o c L' S a w G1,(∀ x,x∈L->x∈L')->l[m1]?=some o->S m1=false->(∀ j∈bJ.getD m1 [],S j=true)->(∀ k o,G k=some o->G1 k=some o)->St N D w0 F G0 G1 L' T a w->(∀ b i d,i≠m1->S i=true->dV l i=some d->∃ v,a.tmps[d]?=some v∧pr b c i v G1) ->
   WL r P l.toArray (fun e a' w'=>e=.normal∧∃ b,DX N D w0 F G0 G ((b,Zg) :: L') T l (pr b c) (cO S m1) a' w') [o] a w)
  (X7:∀ o b L' S a w G1,(∀ x,x∈L->x∈L')->l[m2]?=some o->S m2=false->(∀ j∈bJ.getD m2 [],S j=true)->(∀ k o,G k=some o->G1 k=some o)->St N D w0 F G0 G1 L' T a w->(∀ c i d,i≠m2->S i=true->dV l i=some d->∃ v,a.tmps[d]?=some v∧pr b c i v G1) ->
   WL r P l.toArray (fun e a' w'=>e=.normal∧∃ c,DX N D w0 F G0 G ((c,OD) :: L') T l (pr b c) (cO S m2) a' w') [o] a w)
  (X8:∀ o b c S a w G1,l[m3]?=some o->S m3=false->(∀ j∈bJ.getD m3 [],S j=true)->(∀ k o,G k=some o->G1 k=some o)->St N D w0 F G0 G1 ((b,Zg) :: (c,OD) :: L) T a w->(∀ i d,S i=true->dV l i=some d->∃ v,a.tmps[d]?=some v∧pr b c i v G1) ->
   WL r P l.toArray (fun e a' w'=>e=.normal∧DX N D w0 F G0 G ((b,Zh) :: (c,OD) :: L) T l (pr b c) (cO S m3) a' w') [o] a w)
  (hend:∀ b c a w G1,(∀ k o,G k=some o->G1 k=some o)->St N D w0 F G0 G1 ((b,Zh) :: (c,OD) :: L) T a w->(∀ i d,B.contains i=false->dV l i=some d->∃ v,a.tmps[d]?=some v∧pr b c i v G1)->WL r P l.toArray (fun e a w=>e=.normal∧Q .normal a w) (qb l B) a w)
  (auo:Nat.blt m1 l.length=true) (D8:Nat.blt m2 l.length=true) (Ia:Nat.blt m3 l.length=true):WP r P (.region id l.toArray true) Q a w:=by
 have ne:∀ {x y:Nat},Nat.beq x y=false->x≠y:=fun h e=>by subst e;rw [Nat.beq_refl] at h;cases h
 have hne':m1≠m2:=ne hne
 have RL:m1≠m3:=ne hne1
 have RN:m2≠m3:=ne hne2
 refine EM hm bJ B hk hB (fun S a w=>(S m3=true->S m1=true∧S m2=true)∧∃ b c L',L'=(bif S m1 then [(b,bif S m3 then Zh else Zg)] else [])++((bif S m2 then [(c,OD)] else [])++L)∧DX N D w0 F G0 G L' T l (pr b c) S a w)
  ⟨fun h=>absurd (show false=true from h) Z,0,0,L,M,G,fun _ _ h=>h,H.move H.hp.drew,fun _ _ h=>absurd (show false=true from h) Z⟩ ?_ ?_
 ·rintro i o S a w ho hb aM jm hdesc ⟨RP,b,c,L',hL,G1,hG,HS,hv⟩
  have hsub:∀ x,x∈L->x∈L':=fun x hx=>by rw [hL];exact List.mem_append_right _ (List.mem_append_right _ hx)
  have hno:∀ j,j < l.length->S j=true->(bJ.getD j []).contains i=false:=fun j hjl hj=>by
   cases hc:(bJ.getD j []).contains i with
   | false=>rfl
   | true =>
    have:=hdesc j hjl (by simpa using hc)
    rw [this] at hj;cases hj
  by_cases h1:i=m1
  ·subst h1
   have AQ:S m3=false:=hdesc m3 (Eq.mp Nat.blt_eq Ia) (by simpa using fT)
   have h:=X6 o c L' S a w G1 hsub ho aM jm hG HS fun b' j d hj hSj hd=>by
    obtain ⟨v,hv1,hv2⟩:=hv j d hSj hd
    exact ⟨v,hv1,hp1 b b' c j v _ (qF hj) (hno j (rX hd) hSj) hv2⟩
   refine nG (fun e a' w' ⟨he,b',hD⟩=>⟨he,fun h3=>?_,b',c,_,?_,hD⟩) h
   ·rw [show cO S i m3=S m3 from av RL.symm,AQ] at h3;cases h3
   ·rw [hL,aM,show cO S i i=true from aD M,show cO S i m2=S m2 from av hne'.symm,show cO S i m3=S m3 from av RL.symm,AQ]
    rfl
  ·by_cases h2:i=m2
   ·subst h2
    have AQ:S m3=false:=hdesc m3 (Eq.mp Nat.blt_eq Ia) (by simpa using h23)
    have h:=X7 o b L' S a w G1 hsub ho aM jm hG HS fun c' j d hj hSj hd=>by
     obtain ⟨v,hv1,hv2⟩:=hv j d hSj hd
     exact ⟨v,hv1,hp2 b c c' j v _ (qF hj) (hno j (rX hd) hSj) hv2⟩
    refine nG (fun e a' w' ⟨he,c',hD⟩=>⟨he,fun h3=>?_,b,c',_,M,hD.perm ?_⟩) h
    ·rw [show cO S i m3=S m3 from av RN.symm,AQ] at h3;cases h3
    ·rw [hL,aM,show cO S i i=true from aD M,show cO S i m1=S m1 from av hne',show cO S i m3=S m3 from av RN.symm]
     cases S m1 with
     | false=>exact List.Perm.refl _
     | true=>exact List.Perm.swap _ _ _
   ·by_cases h3:i=m3
    ·subst h3
     have hS1:S m1=true:=jm m1 (by simpa using fT)
     have hS2:S m2=true:=jm m2 (by simpa using h23)
     rw [hS1,hS2,aM] at hL
     subst hL
     have h:=X8 o b c S a w G1 ho aM jm hG HS hv
     refine nG (fun e a' w' ⟨he,hD⟩=>⟨he,fun _=>⟨?_,?_⟩,b,c,_,?_,hD⟩) h
     ·rw [show cO S i m1=S m1 from av RL];exact hS1
     ·rw [show cO S i m2=S m2 from av RN];exact hS2
     ·rw [show cO S i i=true from aD M,show cO S i m1=S m1 from av RL,show cO S i m2=S m2 from av RN,hS1,hS2];rfl
    ·have h:=yH hstep i o ho
     rw [gy] at h
     have e1:cO S i m1=S m1:=av (fun e=>h1 e.symm)
     have e2:cO S i m2=S m2:=av (fun e=>h2 e.symm)
     have e3:cO S i m3=S m3:=av (fun e=>h3 e.symm)
     refine nG (fun e a' w' ⟨he,hD⟩=>⟨he,?_,b,c,L',?_,hD⟩) (h b c L' S a w G1 hsub hb (qF h1) (qF h2) (qF h3) aM jm hG HS hv)
     ·rw [e1,e2,e3];exact RP
     ·rw [e1,e2,e3];exact hL
 ·rintro S a w hall Ib ⟨RP,b,c,L',hL,G1,hG,HS,hv⟩
  have hs1:S m1=true:=hall m1 (Eq.mp Nat.blt_eq auo) agL
  have hs2:S m2=true:=hall m2 (Eq.mp Nat.blt_eq D8) agM
  have hs3:S m3=true:=hall m3 (Eq.mp Nat.blt_eq Ia) X5
  rw [hs1,hs2,hs3] at hL
  subst hL
  exact hend b c a w G1 hG HS fun j d hb hd=>hv j d (hall j (rX hd) hb) hd
end
end
theorem aqt:aS 53:=aT func53 M
theorem aqu:aS 54:=aT func54 M
theorem aqv:aS 55:=aT func55 M
theorem aqw:aS 56:=aT func56 M
theorem aqx:aS 57:=aT func57 M
theorem gu.eq_iff (a b:gu):((((((a.flow=b.flow∧a.fin=b.fin)∧a.revs=b.revs)∧a.iH.styles=b.iH.styles)∧a.iH.lists=b.iH.lists)∧a.iH.comments=b.iH.comments)∧a.iH.vars=b.iH.vars)↔a=b:=by
 obtain ⟨a1,a2,a3,a4,a5,a6,a7⟩:=a;obtain ⟨b1,b2,b3,b4,b5,b6,b7⟩:=b
 simp [and_assoc]
theorem Vf {p:Prop} (h:p:=by
 exact Ch HT Hb hG hv (iN aJ wJ) H M):p:=h
theorem acP {p:Prop} (h:p:=by
 intro aJ wJ dG bH a w G1 eP _ _ _ _ aM hc hG HT hv;have H:=HT;clear aM;have Hb:=H.full;have H:=Hb;clear hc;refine kH H (Rf J8 M ?_);clear H;intro a H;refine aG ⟨M,?_⟩;exact Vf):p:=h
set_option maxHeartbeats 2000000 in
theorem aev (G:GH) (w0:World) (hG:Hold G w0) (D E:kN) (x y:gu) (hD:oL G D x) (hE:oL G E y) (hz:dH x.flow<=4294967296) :
  Calls prog 16 #[D.val,E.val] w0 (bG w0 G fun u G'=>∃ b,u=.bool b∧(b=true↔x=y)):=by
 have he:=gu.eq_iff x y;refine eN [(0,_),(1,_)] func16 M ntmps16 M M hG ?_;intro a H;refine dz (fun _ K1=>?_);refine dR (cs:=[_,_,_,_,_,_,_,_,_,_,_]) H wn M M M ?_;clear H;intro b2 a w hb2 H;refine dR (cs:=[_,_,_,_,_,_,_,_,_,_,_]) H wn M M M ?_;clear H;intro b3 a w hb3 H;refine kH H (aj K1 M (SQ fun _ K2=>?_));clear H K1;intro a H;obtain ⟨Ga0,Fj,tF,H⟩:=H.fF;obtain ⟨Ga,Bd,hb2',H⟩:=H.fF;have hga:=fun j v hj=>lY hb2' 0 D.cells M j v hj;have hge:∀ j v,E.cells[j]?=some v->aH Ga b3 (0+j)=some v:=fun j v hj=>aC Bd (lY tF 0 E.cells M j v hj)
 have hgd:∀ j v,[aW D.p,vi x.fin.marks.ins,vi x.fin.marks.move,aW D.d,aW D.y][j]?=some v->aH Ga b2 (1+j)=some v:=fun j v hj=>by rw [<- hD.ins,<- hD.mv] at hj;exact lY hb2' 1 [aW D.p,vi D.ins,vi D.move,aW D.d,aW D.y] M j v hj
 have hgf:∀ j v,[aW E.p,vi y.fin.marks.ins,vi y.fin.marks.move,aW E.d,aW E.y][j]?=some v->aH Ga b3 (1+j)=some v:=fun j v hj=>by rw [<- hE.ins,<- hE.mv] at hj;exact aC Bd (lY tF 1 [aW E.p,vi E.ins,vi E.move,aW E.d,aW E.y] M j v hj)
 have hgs:∀ j v,[aW D.s1,aW D.s2,aW D.s3,aW D.s4][j]?=some v->aH Ga b2 (7+j)=some v:=fun j v hj=>lY hb2' 7 [aW D.s1,aW D.s2,aW D.s3,aW D.s4] M j v hj;have hgt:∀ j v,[aW E.s1,aW E.s2,aW E.s3,aW E.s4][j]?=some v->aH Ga b3 (7+j)=some v:=fun j v hj=>aC Bd (lY tF 7 [aW E.s1,aW E.s2,aW E.s3,aW E.s4] M j v hj);have hx1:=(hD.fl.mono Fj).mono Bd;have hy1:=(hE.fl.mono Fj).mono Bd;have hx2:=(hD.hd.mono Fj).mono Bd;have hy2:=(hE.hd.mono Fj).mono Bd;have hx3:=(hD.rv.mono Fj).mono Bd;have hy3:=(hE.rv.mono Fj).mono Bd;have hx4:=(hD.st.mono Fj).mono Bd;have hy4:=(hE.st.mono Fj).mono Bd;clear hD hE
 have iN:∀ (aJ wJ bX:Nat) (v:ah) (G G':GH),(∀ k o,G k=some o->G' k=some o)->(fun (aJ wJ bX:Nat) (v:ah) (G:GH)=>match bX with|0=>v=(aK b2 7)|1=>v=.agg #[aW D.s1,aW D.s2,aW D.s3,aW D.s4]|2=>v=(aK b3 7)|3=>v=.agg #[aW E.s1,aW E.s2,aW E.s3,aW E.s4]|4=>v=(aK aJ 0)|5=>v=(aK wJ 0)|_=>True) aJ wJ bX v G->(fun (aJ wJ bX:Nat) (v:ah) (G:GH)=>match bX with|0=>v=(aK b2 7)|1=>v=.agg #[aW D.s1,aW D.s2,aW D.s3,aW D.s4]|2=>v=(aK b3 7)|3=>v=.agg #[aW E.s1,aW E.s2,aW E.s3,aW E.s4]|4=>v=(aK aJ 0)|5=>v=(aK wJ 0)|_=>True) aJ wJ bX v G':=by
  intro aJ wJ bX v G G' hm h
  match bX,h with
  | 0,h=>exact h
  | 1,h=>exact h
  | 2,h=>exact h
  | 3,h=>exact h
  | 4,h=>exact h
  | 5,h=>exact h
  | 6,h=>exact trivial
  | 7,h=>exact trivial
  | _+8,h=>exact trivial
 refine amj (hmx) [[],[0],[],[2],[],[],[0,1,4,5],ra 0 7] [7] V V 4 5 6 Z Z Z Z Z Z Z Z (.cells #[.slice none 0 0,.slice none 0 0,.slice none 0 0,.slice none 0 0] 36 (0,0)) (.cells #[.slice none 0 0,.slice none 0 0,.slice none 0 0,.slice none 0 0] 36 (0,0)) (.cells #[aW D.s1,aW D.s2,aW D.s3,aW D.s4] 36 (0,0)) (fun (aJ wJ bX:Nat) (v:ah) (G:GH)=>match bX with|0=>v=(aK b2 7)|1=>v=.agg #[aW D.s1,aW D.s2,aW D.s3,aW D.s4]|2=>v=(aK b3 7)|3=>v=.agg #[aW E.s1,aW E.s2,aW E.s3,aW E.s4]|4=>v=(aK aJ 0)|5=>v=(aK wJ 0)|_=>True) (fun b b' c i v G hi hc h=>by (iterate 8 (rcases i with _|i;(first|exact h|exact absurd hi Z|exact absurd hc Z)));exact trivial) (fun b c c' i v G hi hc h=>by (iterate 8 (rcases i with _|i;(first|exact h|exact absurd hi Z|exact absurd hc Z)));exact trivial) H ?_ ?_ ?_ ?_ ?_ V V V
 ·clear H;refine ay ?_ ?_ ?_ ?_ (ay ?_ ?_ ?_ ?_ dB)
  ·exact acP
  ·intro aJ wJ dG bH a w G1 eP _ _ _ _ aM hc hG HT hv;have H:=HT;clear aM;have H:=H.aN (hv 0 8 (hc 0 Z) M) M;have Hb:=H.full;have H:=Hb;clear hc;refine aU vD (cs:=[aW D.s1,aW D.s2,aW D.s3,aW D.s4]) H wn M M (fun j v hj=>H.hp.aH (aC hG (hgs j v hj))) M ?_;clear H;intro a H;refine aG ⟨M,?_⟩;exact Vf
  ·exact acP
  ·intro aJ wJ dG bH a w G1 eP _ _ _ _ aM hc hG HT hv;have H:=HT;clear aM;have H:=H.aN (hv 2 10 (hc 2 Z) M) M;have Hb:=H.full;have H:=Hb;clear hc;refine aU vD (cs:=[aW E.s1,aW E.s2,aW E.s3,aW E.s4]) H wn M M (fun j v hj=>H.hp.aH (aC hG (hgt j v hj))) M ?_;clear H;intro a H;refine aG ⟨M,?_⟩;exact Vf
  ·intro _ _ _ _ _ _ _ _ _ hB;exact fP
  ·intro _ _ _ _ _ _ _ _ _ _ hB;exact fP
  ·intro _ _ _ _ _ _ _ _ _ _ _ hB;exact fP
  exact uP
 ·clear H;intro o_ wJ dG bH a w G1 eP mK _ hc hG HT hv;obtain rfl:_=o_:=Option.some.inj mK;clear mK;have H:=HT;have Hb:=H.full;have H:=Hb;clear hc;refine dJ vD H wn M ?_;clear H;intro b5 a w hb5 H;refine aG ⟨M,b5,?_⟩;exact MK
 ·clear H;intro o_ aJ dG bH a w G1 eP mK _ hc hG HT hv;obtain rfl:_=o_:=Option.some.inj mK;clear mK;have H:=HT;have Hb:=H.full;have H:=Hb;clear hc;refine dJ vD H wn M ?_;clear H;intro b6 a w hb6 H;refine aG ⟨M,b6,?_⟩;exact MK
 ·clear H;intro o_ aJ wJ bH a w G1 mK _ hc hG HT hv;obtain rfl:_=o_:=Option.some.inj mK;clear mK;have H:=HT;have H:=H.aN (hv 4 5 (hc 4 Z) M) M;have H:=H.aN (hv 1 9 (hc 1 Z) M) M;have Hb:=H.full;have H:=Hb;clear hc;refine bC vD 0 (vs:=[_,_,_,_]) H wn M ?_;exact Vm
 clear H;intro b5 b6 a w G jC H hv;have H:=H.aN (hv 4 5 M M) M;have H:=H.aN (hv 5 6 M M) M;have H:=H.aN (hv 3 11 M M) M;clear hv;refine bC vD 1 (vs:=[_,_,_,_]) H wn M ?_;clear H;intro w H;refine aG ⟨M,?_⟩;refine K2 _ _ ?_;clear K2;refine kP H (SR fun _ K3=>aj K3 M (SR fun _ K4=>Rf vX M (Rg kW M (aC jC (hga 0 _ M)) (Rf vX M (Rg kW M (aC jC (hge 0 _ M)) ?_)))));clear H K3;intro a H;refine s_call WC H wn M (aru _ _ H.ro x.flow y.flow _ _ (hx1.mono jC) (hy1.mono jC) O) M ?_;clear H;rintro v16 tX a w ⟨b16,rfl,agm⟩ nL H;refine kH H (Rm M (Sp 17 M ?_ ?_)) <;> clear H
 ·intro cu a H
  try have lI:=dT cu
  refine kH H (YF Cj cu M ?_);clear H;intro a H;refine aU fB (cs:=[aW D.p,vi x.fin.marks.ins,vi x.fin.marks.move,aW D.d,aW D.y]) H (wg H M M cu) M M (fun j v hj=>H.hp.aH (aC nL (aC jC (hgd j v hj)))) M ?_;clear H;intro a H;refine kH H (YF Cj cu M ?_);clear H;intro a H;refine aU fB (cs:=[aW E.p,vi y.fin.marks.ins,vi y.fin.marks.move,aW E.d,aW E.y]) H (wg H M M cu) M M (fun j v hj=>H.hp.aH (aC nL (aC jC (hgf j v hj)))) M ?_;clear H;intro a H;refine s_call Nn H (wg H M M cu) M (Nq _ _ H.ro x.fin y.fin _ _ _ _ _ _ ((hx2.mono jC).mono nL) ((hy2.mono jC).mono nL)) M ?_;clear H;rintro v22 Ut a w rfl Ba H;refine kH H (Pt cu M (Rm M (Sp 24 M ?_ ?_))) <;> clear H
  ·intro cK a H
   try have kV:=dT cK
   refine kH H (YF Ck cK M (YR xk cK M (aC Ba (aC nL (aC jC (hga 6 _ M)))) (YF Ck cK M (YR xk cK M (aC Ba (aC nL (aC jC (hge 6 _ M)))) ?_))));clear H;intro a H;refine s_call aqt H (wg H M M cK) M (arq _ _ H.ro x.revs y.revs _ _ (((hx3.mono jC).mono nL).mono Ba) (((hy3.mono jC).mono nL).mono Ba)) M ?_;clear H;rintro v29 F3 a w rfl Fb H;have hx5:=(((hx4.mono jC).mono nL).mono Ba).mono Fb;have R7:=(((hy4.mono jC).mono nL).mono Ba).mono Fb;refine kH H (Pt cK M (Rm M (Sp 31 M ?_ ?_))) <;> clear H
   ·intro h31 a H
    try have p31:=dT h31
    refine kH H (YF ES h31 M (YO rH 0 h31 M (YF ES h31 M (YO rH 1 h31 M ?_))));clear H;intro a H;refine s_call aqu H (wg H M M h31) M (aqY _ _ H.ro x.iH.styles y.iH.styles _ _ hx5.st R7.st) M ?_;clear H;rintro v36 G36 a w ⟨Dq,rfl,atp⟩ KE H;refine kH H (Pt h31 M (Rm M (Sp 38 M ?_ ?_))) <;> clear H
    ·intro fU a H
     try have p38:=dT fU
     refine kH H (YF ET fU M (YO Ac 0 fU M (YF ET fU M (YO Ac 1 fU M (YM fU M ?_)))));clear H;intro a H;refine s_call aqv H (wg H M M fU) M (arb _ _ H.ro x.iH.lists y.iH.lists _ _ _ (hx5.li.mono KE) (R7.li.mono KE) (fun i h1 h2=>aqV _ _ _)) M ?_;clear H;rintro v44 G44 a w ⟨b44,rfl,aBU⟩ NY H;refine kH H (Pt fU M (Rm M (Sp 46 M ?_ ?_))) <;> clear H
     ·intro h46 a H
      try have p46:=dT h46
      refine kH H (YF Ny h46 M (YO C9 0 h46 M (YF Ny h46 M (YO C9 1 h46 M ?_))));clear H;intro a H;refine s_call aqw H (wg H M M h46) M (aro _ _ H.ro x.iH.comments y.iH.comments _ _ ((hx5.cm.mono KE).mono NY) ((R7.cm.mono KE).mono NY)) M ?_;clear H;rintro v51 G51 a w rfl KG H;refine kH H (Pt h46 M (Rm M (Sp 53 M ?_ ?_))) <;> clear H
      ·intro qZ a H
       try have p53:=dT qZ
       refine kH H (YF Nz qZ M (YO xq 0 qZ M (YF Nz qZ M (YO xq 1 qZ M ?_))));clear H;intro a H;refine s_call aqx H (wg H M M qZ) M (ars _ _ H.ro x.iH.vars y.iH.vars _ _ (((hx5.va.mono KE).mono NY).mono KG) (((R7.va.mono KE).mono NY).mono KG)) M ?_;clear H;rintro v58 G58 a w rfl N8 H;exact kH H (Pt qZ M (aj K4 M (LR results16 M fun H=>H.rt ⟨_,M,by rw [<- he];simp_all⟩)))
      intro qZ a H
      try have p53:=dF qZ
      exact kH H (aP qZ M (aL qZ M (Pf qZ M (aj K4 M (LR results16 M fun H=>H.rt ⟨_,M,by rw [<- he];simp_all⟩)))))
     intro h46 a H
     try have p46:=dF h46
     exact kH H (aP h46 M (aL h46 M (Pf h46 M (Rm M (aP M M (aL M M (Pf M M (aj K4 M (LR results16 M fun H=>H.rt ⟨_,M,by rw [<- he];simp_all⟩)))))))))
    intro fU a H
    try have p38:=dF fU
    exact kH H (aP fU M (aP fU M (Pf fU M (Rm M (aP M M (aL M M (Pf M M (Rm M (aP M M (aL M M (Pf M M (aj K4 M (LR results16 M fun H=>H.rt ⟨_,M,by rw [<- he];simp_all⟩)))))))))))))
   intro h31 a H
   try have p31:=dF h31
   exact kH H (aP h31 M (aL h31 M (Pf h31 M (Rm M (aP M M (aP M M (Pf M M (Rm M (aP M M (aL M M (Pf M M (Rm M (aP M M (aL M M (Pf M M (aj K4 M (LR results16 M fun H=>H.rt ⟨_,M,by rw [<- he];simp_all⟩)))))))))))))))))
  intro cK a H
  try have kV:=dF cK
  exact kH H (aP cK M (aL cK M (Pf cK M (Rm M (aP M M (aL M M (Pf M M (Rm M (aP M M (aP M M (Pf M M (Rm M (aP M M (aL M M (Pf M M (Rm M (aP M M (aL M M (Pf M M (aj K4 M (LR results16 M fun H=>H.rt ⟨_,M,by rw [<- he];simp_all⟩)))))))))))))))))))))
 intro cu a H
 try have lI:=dF cu
 refine kH H (aP cu M (aL cu M (Pf cu M (Rm M (aP M M (aL M M (Pf M M (Rm M (aP M M (aL M M (Pf M M (Rm M (aP M M (aP M M (Pf M M (Rm M (aP M M (aL M M (Pf M M (Rm M (aP M M (aL M M ?_))))))))))))))))))))));clear H;intro a H;exact kH H (Pf M M (aj K4 M (LR results16 M fun H=>H.rt ⟨_,M,by rw [<- he];simp_all⟩)))
theorem Wt:aS 12:=aT func12 M
theorem aoF:aS 13:=aT func13 M
theorem aeM:aS 16:=aT func16 M

section
variable {acc rej acc' aCB:Int->Bool}
def Left (C:bE) (acc rej:Int->Bool) (h:dN):Prop:=∀ q∈refs h,q=0∨(q∈C.kM∧acc q=false∧rej q=false)
theorem QH {C:bE} {e:Int} {h:dN} (hE:iG C e h=0) (hg:¬ lZ acc rej h):Left C acc rej (iI acc rej h):=by
 have hh:=(HZ _ _ _).1 hE;intro q hq
 unfold refs at hq
 rcases gK.1 hq with rfl|hq
 ·show (if kU acc h then 0 else h.marks.ins)=0∨_
  by_cases hi:kU acc h
  ·rw [aD hi];exact .inl M
  show _∨((if kU acc h then 0 else h.marks.ins)∈_∧acc (if kU acc h then 0 else h.marks.ins)=false∧rej (if kU acc h then 0 else h.marks.ins)=false)
  rw [av hi]
  by_cases h0:h.marks.ins=0
  ·exact .inl h0
  refine .inr ⟨hh.mrk.1 h0,?_,?_⟩
  ·cases ha:acc h.marks.ins
   ·rfl
   exact absurd ⟨h0,ha⟩ hi
  cases ha:rej h.marks.ins
  ·rfl
  exact absurd (.inl ⟨h0,ha⟩) hg
 rcases jQ.1 hq with hq|hq
 ·obtain ⟨x,hx,rfl⟩:=List.mem_map.1 hq;have hx2:x∈h.marks.bK.filter fun x=>!rej x.rev:=hx;rw [List.mem_filter] at hx2;refine .inr ⟨(hh.dl.1 x hx2.1).1,?_,by simpa using hx2.2⟩
  cases ha:acc x.rev
  ·rfl
  exact absurd (.inr ⟨x,hx2.1,ha⟩) hg
 obtain ⟨y,hy,rfl⟩:=List.mem_map.1 hq;obtain ⟨z,hz,e,h1,h2⟩:=(Nf acc rej hh).2 y hy;rw [<- e];exact .inr ⟨(hh.ly.1 z hz).1,h2,h1⟩
theorem afV:∀ a b:List au,ku (a++b)=ku a++ku b
 | [],b=>by simp [ku]
 | x :: a,b=>by simp [ku,afV a b]
theorem agh:∀ a b:List aV,pU (a++b)=pU a++pU b
 | [],b=>by simp [pU]
 | x :: a,b=>by simp [pU,agh a b]
theorem afT:∀ a b:List aX,qH (a++b)=qH a++qH b
 | [],b=>by simp [qH]
 | x :: a,b=>by simp [qH,afT a b]
theorem Vg {p:Prop} (h:p:=by
 exact (jQ.1 hh).elim (a h0) (b h0)):p:=h
mutual
theorem ayv (C:bE) (body note:Bool) (t:Int):∀ x:au,mq C body note t x->∀ h∈ku (nu acc rej x),Left C acc rej h
 | .mk k c i tx h f r,hx,h0,hh=>by
  have hf:=Tj C false true t f;have hr:=aiW C note (t+1) r;rw [mq] at hx;obtain ⟨-,-,h3,h4,h5⟩:=hx;rw [nu] at hh
  split at hh
  ·rw [ku] at hh;cases hh
  rename_i hg
  have hd:=QH h3 hg
  have one:∀ y:au,ku [y]=AO y:=fun y=>by rw [ku,ku,ig]
  split at hh
  ·rename_i h6
   rw [one,AO,aD h6,av (show ¬ k=7 by omega),ig] at hh
   rcases gK.1 hh with rfl|hh
   ·exact hd
   exact hf (h4 h6) h0 hh
  rename_i h6
  split at hh
  ·rename_i h7
   split at hh
   ·rw [ku] at hh;cases hh
   rw [one,AO,av h6,aD h7,mO] at hh
   rcases gK.1 hh with rfl|hh
   ·exact hd
   exact hr (h5 h7).2 h0 hh
  rename_i h7
  rw [one,AO,av h6,av h7,mO] at hh;rw [oC.1 hh];exact hd
theorem ayw (C:bE) (note:Bool) (t:Int):∀ x:aV,pY C note t x->∀ h∈pU (pq acc rej x),Left C acc rej h
 | .mk h cs,hx,h0,hh=>by
  have hc:=aiV C note t cs;rw [pY] at hx;rw [pq] at hh
  split at hh
  ·rw [pU] at hh;cases hh
  rename_i hg
  split at hh
  ·rw [pU] at hh;cases hh
  rw [pU,pU,ig,Fa] at hh
  rcases gK.1 hh with rfl|hh
  ·exact QH (Tp.1 hx.1).1 hg
  exact hc hx.2 h0 hh
theorem ayu (C:bE) (note:Bool) (t:Int):∀ x:aX,pX C note t x->∀ h∈qH (pI acc rej x),Left C acc rej h
 | .mk i h f,hx,h0,hh=>by
  have hf:=Tj C false note t f;rw [pX] at hx;rw [pI] at hh
  split at hh
  ·rw [qH] at hh;cases hh
  rename_i hg
  rw [qH,qH,ig,E8] at hh
  rcases gK.1 hh with rfl|hh
  ·exact QH hx.1 hg
  exact hf hx.2 h0 hh
theorem Tj (C:bE) (body note:Bool) (t:Int):∀ l:List au,iU C body note t l->∀ h∈ku (dW acc rej l),Left C acc rej h
 | [],_,h0,hh=>by rw [dW,ku] at hh;cases hh
 | x :: l,h,h0,hh=>by
  rw [iU] at h;have a:=ayv C body note t x h.1;have b:=Tj C body note t l h.2;rw [dW,afV] at hh;exact Vg
theorem aiW (C:bE) (note:Bool) (t:Int):∀ l:List aV,kL C note t l->∀ h∈pU (gT acc rej l),Left C acc rej h
 | [],_,h0,hh=>by rw [gT,pU] at hh;cases hh
 | x :: l,h,h0,hh=>by
  rw [kL] at h;have a:=ayw C note t x h.1;have b:=aiW C note t l h.2;rw [gT,agh] at hh;exact Vg
theorem aiV (C:bE) (note:Bool) (t:Int):∀ l:List aX,lH C note t l->∀ h∈qH (gD acc rej l),Left C acc rej h
 | [],_,h0,hh=>by rw [gD,qH] at hh;cases hh
 | x :: l,h,h0,hh=>by
  rw [lH] at h;have a:=ayu C note t x h.1;have b:=aiV C note t l h.2;rw [gD,afT] at hh;exact Vg
end
def Pb (acc rej:Int->Bool) (r:List bV):List bV:=r.filter fun x=>!acc x.id && !rej x.id
theorem alX {p:Prop} (h:p:=by
 exact g3 (.inr (by have:=List.length_pos_of_mem hx;omega))):p:=h
theorem abD {p:Prop} (h:p:=by
 unfold vg at g3
 rw [vO] at g3;rintro (⟨a,-⟩|⟨x,hx,-⟩)
 ·exact g3 (.inl (.inl a))
 exact alX):p:=h
theorem ayE {d:gu} (h:iT d=0):iT ⟨dW acc rej d.flow,eU acc rej d.fin,Pb acc rej d.revs,d.iH⟩=0:=by
 obtain ⟨g1,⟨g2,g3⟩,g4,-,-⟩:=(Ap _).1 h;obtain ⟨h1,h2,h3,h4,h5⟩:=(Ap _).1 (OI (acc:=acc) (rej:=rej) h);have hg:=ajm h1.2
 have h0:(0:Int)∉(jJ acc rej d).kS.kM:=by
  exact abF
 have hin:∀ q,(q=0∨(q∈d.kS.kM∧acc q=false∧rej q=false))->q≠0->q∈(Pb acc rej d.revs).map bV.id:=by
  intro q hq hn;obtain ⟨a,b,c⟩:=hq.resolve_left hn;obtain ⟨x,hx,rfl⟩:=List.mem_map.1 (show q∈d.revs.map bV.id from a);exact List.mem_map.2 ⟨x,List.mem_filter.2 ⟨hx,by simp [b,c]⟩,M⟩
 have hgo:¬ lZ acc rej d.fin:=by
  exact abD
 refine (Ap _).2 ⟨⟨h1.1,afQ (hg.sub List.filter_sublist)⟩,⟨NQ (C:=(jJ acc rej d).kS) (C':=bL [] d.iH.styles d.iH.lists (Pb acc rej d.revs)) M M h0 (fun q hq hn=>hin q ?_ hn) h2.1,h2.2⟩,OO (C:=(jJ acc rej d).kS) (C':=bL [] d.iH.styles d.iH.lists (Pb acc rej d.revs)) M M h0 true false 0 _ (fun x hx q hq hn=>hin q (Tj d.kS true false 0 _ g4 x hx q hq) hn) h3,h4,h5⟩;have hl:=QH g2 hgo;rw [show eU acc rej d.fin=iI acc rej d.fin from av hgo] at hq;exact hl q hq
theorem aAY {d:gu} (h:iT d=0) {q:Int} (hq:q∈nP (oZ (jJ acc rej d))):q∈(Pb acc rej d.revs).map bV.id:=by
 have h1:=(Sw (ayE (acc:=acc) (rej:=rej) h)).1
 unfold nP at hq
 rw [List.mem_filter,oM,ME] at hq;obtain ⟨hq|hq,hn⟩:=hq
 ·cases hq
 exact (Te h1 q hq).resolve_left hn
end

section
abbrev kZ:=Int × Bool
def IV (k:Int):kZ->List (Int × kZ)->List bZ
 | _,[]=>[]
 | s,(r,t) :: p=>⟨r,k,s.1,s.2⟩ :: IV k t p
def GV:kZ->List (Int × kZ)->kZ
 | s,[]=>s
 | _,(_,t) :: p=>GV t p
def Ef:List bZ->kZ->kZ
 | [],now=>now
 | y :: _,_=>(y.before,y.had)
def vG:List bZ->kZ->List (Int × kZ)
 | [],_=>[]
 | y :: r,now=>(y.rev,Ef r now) :: vG r now
def dA (acc:Int->Bool):kZ->List (Int × kZ)->kZ × List (Int × kZ)
 | s,[]=>(s,[])
 | s,(r,t) :: p=>if ((r,t) :: p).any (fun q=>acc q.1)=true then dA acc t p else (s,(r,t) :: p)
def wK (acc rej:Int->Bool) (q:kZ × List (Int × kZ)):kZ × List (Int × kZ):=((dA acc q.1 q.2).1,(dA acc q.1 q.2).2.filter fun x=>!rej x.1)
theorem aiK (k:Int):∀ (p:List (Int × kZ)) (s:kZ),Ef (IV k s p) (GV s p)=s
 | [],_=>rfl
 | (_,_) :: _,_=>rfl
theorem aiL (k:Int):∀ (p:List (Int × kZ)) (s:kZ),vG (IV k s p) (GV s p)=p
 | [],_=>rfl
 | (r,t) :: p,s=>by
  rw [IV,GV,vG,aiK,aiL]
theorem M9 {acc:Int->Bool} {s:kZ} {p:List (Int × kZ)} (h:p.any (fun q=>acc q.1)=false):dA acc s p=(s,p):=by
 cases p with
 | nil=>rfl
 | cons x p=>rw [dA,av (by rw [h];decide)]
theorem anM {acc:Int->Bool} {s t:kZ} {p:List (Int × kZ)} (h:p.any (fun q=>acc q.1)=true):dA acc s p=dA acc t p:=by
 cases p with
 | nil=>cases h
 | cons x p=>rw [dA,dA,aD h,aD h]
def fI (f g:Int->Bool):Int->Bool:=fun q=>f q || g q
variable {acc rej dM eH eZ iy:Int->Bool}
theorem Wj (x2:∀ q,eH q=true->eZ q=false):∀ (p:List (Int × kZ)) (s:kZ),p.any (fun q=>dM q.1)=false ->
  dA eZ s (p.filter fun x=>!eH x.1)=((dA (fI dM eZ) s p).1,(dA (fI dM eZ) s p).2.filter fun x=>!eH x.1)
 | [],_,_=>rfl
 | (r,t) :: p,s,h=>by
  rw [List.any_cons,Bool.or_eq_false_iff] at h;obtain ⟨h1,h2⟩:=h;dsimp only at h1;have ihs:=Wj x2 p s h2;have iht:=Wj x2 p t h2
  have hor:fI dM eZ r=eZ r:=by unfold fI;rw [h1,Bool.false_or]
  have hany:(p.filter fun x=>!eH x.1).any (fun q=>eZ q.1)=p.any fun q=>fI dM eZ q.1:=by
   rw [rT,List.any_eq_true,List.any_eq_true]
   constructor
   ·rintro ⟨x,hx,ha⟩;exact ⟨x,(List.mem_filter.1 hx).1,by unfold fI;rw [ha,Bool.or_true]⟩
   rintro ⟨x,hx,ha⟩
   have h3:dM x.1=false:=by
    cases e:dM x.1
    ·rfl
    rw [List.any_eq_false] at h2;exact absurd e (h2 x hx)
   unfold fI at ha
   rw [h3,Bool.false_or] at ha;refine ⟨x,List.mem_filter.2 ⟨hx,?_⟩,ha⟩
   cases e:eH x.1
   ·rfl
   rw [x2 _ e] at ha;cases ha
  by_cases hr:eH r=true
  ·rw [List.filter_cons_of_neg (by simp [hr])];have hac:eZ r=false:=x2 _ hr
   by_cases ha:p.any (fun q=>fI dM eZ q.1)=true
   ·have e:dA (fI dM eZ) s ((r,t) :: p)=dA (fI dM eZ) t p:=by rw [dA,aD (by rw [List.any_cons,ha,Bool.or_true])]
    rw [e,anM (t:=t) (by rw [hany];exact ha),iht]
   have ha':p.any (fun q=>fI dM eZ q.1)=false:=by rw [Bool.not_eq_true] at ha;exact ha
   have e:dA (fI dM eZ) s ((r,t) :: p)=(s,(r,t) :: p):=M9 (by rw [List.any_cons,ha',hor,hac];rfl);rw [e,ihs,M9 ha'];dsimp only;rw [List.filter_cons_of_neg (by simp [hr])]
  have hr':eH r=false:=by simpa using hr
  rw [List.filter_cons_of_pos (by simp [hr'])]
  have hc:((r,t) :: p.filter fun x=>!eH x.1).any (fun q=>eZ q.1)=((r,t) :: p).any fun q=>fI dM eZ q.1:=by
   rw [List.any_cons,List.any_cons,hany,hor]
  by_cases ha:((r,t) :: p).any (fun q=>fI dM eZ q.1)=true
  ·rw [dA,aD (by rw [hc];exact ha),dA,aD ha,iht]
  rw [dA,av (by rw [hc];exact ha),dA,av ha];dsimp only;rw [List.filter_cons_of_pos (by simp [hr'])]
theorem aeo (x2:∀ q,eH q=true->eZ q=false):∀ (p:List (Int × kZ)) (s:kZ),wK eZ iy (wK dM eH (s,p))=wK (fI dM eZ) (fI eH iy) (s,p)
 | [],_=>rfl
 | (r,t) :: p,s=>by
  by_cases ha:((r,t) :: p).any (fun q=>dM q.1)=true
  ·have ih:=aeo x2 p t
   have e1:wK dM eH (s,(r,t) :: p)=wK dM eH (t,p):=by
    unfold wK;dsimp only;rw [dA,aD ha]
   have e2:wK (fI dM eZ) (fI eH iy) (s,(r,t) :: p)=wK (fI dM eZ) (fI eH iy) (t,p):=by
    unfold wK;dsimp only
    rw [dA,aD];rw [List.any_eq_true] at ha |-;obtain ⟨x,hx,hq⟩:=ha;exact ⟨x,hx,by unfold fI;rw [hq,Bool.true_or]⟩
   rw [e1,e2,ih]
  have ha':((r,t) :: p).any (fun q=>dM q.1)=false:=by rw [Bool.not_eq_true] at ha;exact ha
  unfold wK
  dsimp only;rw [M9 ha'];dsimp only;rw [Wj x2 _ _ ha'];dsimp only;rw [List.filter_filter];refine cZ (Prod.mk _) (List.filter_congr fun x _=>?_)
  unfold fI
  cases eH x.1 <;> cases iy x.1 <;> rfl
theorem Z5 {props:List aO} {key:Int}:∀ {l:List bZ} {k:Nat},k<=l.length->(qd props key l).getD k (0,false)=Ef (l.drop k) (kT props key)
 | [],k,h=>by
  have:k=0:=by simpa using h
  subst this;rfl
 | y :: r,0,_=>rfl
 | y :: r,k+1,h=>by
  have ih:=Z5 (props:=props) (key:=key) (l:=r) (k:=k) (by simpa using h);rw [xG,<- ih];rfl
theorem ahM {props:List aO} {key:Int} {full:List bZ}:∀ (l:List bZ) (k:Nat) (now:kZ),full.drop k=l->k<=full.length->(∀ y∈l,y.key=key) ->
  uH rej (qd props key full) l k now=(IV key now ((vG l (kT props key)).filter fun x=>!rej x.1),GV now ((vG l (kT props key)).filter fun x=>!rej x.1))
 | [],_,now,_,_,_=>by rw [uH,vG];rfl
 | y :: r,k,now,hd,hk,hy=>by
  have hlt:k < full.length:=by
   rcases Nat.lt_or_ge k full.length with h|h
   ·exact h
   rw [List.drop_eq_nil_of_le h] at hd;cases hd
  have hd2:full.drop (k+1)=r:=by rw [<- List.drop_drop,hd];rfl
  have ih:=fun now=>ahM (props:=props) r (k+1) now hd2 O fun z hz=>hy z (gW _ hz);rw [uH,vG]
  by_cases hr:rej y.rev=true
  ·rw [aD hr,ih,List.filter_cons_of_neg (by simp [hr])]
  rw [av hr];dsimp only;rw [ih,List.filter_cons_of_pos (by simpa using hr),Z5 O,hd2,IV,GV,hy y dX]
theorem ND:∀ (l:List bZ) (k c:Nat),l.any (fun y=>acc y.rev)=false->iZ acc l k c=c
 | [],_,_,_=>by rw [iZ]
 | y :: r,k,c,h=>by
  rw [List.any_cons,Bool.or_eq_false_iff] at h;rw [iZ,h.1,av Z];exact ND r _ _ h.2
theorem Xb:∀ (l:List bZ) (k c:Nat),l.any (fun y=>acc y.rev)=true->iZ acc l k c=k+iZ acc l 0 0
 | [],_,_,h=>by cases h
 | y :: r,k,c,h=>by
  rw [iZ,iZ]
  by_cases hr:r.any (fun y=>acc y.rev)=true
  ·rw [Xb r (k+1) _ hr,Xb r (0+1) _ hr];omega
  have hr':r.any (fun y=>acc y.rev)=false:=by rw [Bool.not_eq_true] at hr;exact hr
  rw [List.any_cons,hr',Bool.or_false] at h;rw [ND _ _ _ hr',ND _ _ _ hr',aD h,aD h]
theorem Uf (now:kZ):∀ l:List bZ,(vG l now).any (fun q=>acc q.1)=l.any fun y=>acc y.rev
 | []=>rfl
 | y :: r=>by rw [vG,List.any_cons,List.any_cons,Uf now r]
theorem afL (now:kZ):∀ l:List bZ,dA acc (Ef l now) (vG l now)=(Ef (l.drop (iZ acc l 0 0)) now,vG (l.drop (iZ acc l 0 0)) now)
 | []=>rfl
 | y :: r=>by
  have ih:=afL now r
  by_cases hr:r.any (fun y=>acc y.rev)=true
  ·have e:iZ acc (y :: r) 0 0=iZ acc r 0 0+1:=by rw [iZ,Xb _ _ _ hr];omega
   rw [e,xG,<- ih,vG,dA,aD (by rw [List.any_cons,Uf,hr,Bool.or_true])]
  have hr':r.any (fun y=>acc y.rev)=false:=by rw [Bool.not_eq_true] at hr;exact hr
  by_cases hy:acc y.rev=true
  ·have e:iZ acc (y :: r) 0 0=1:=by rw [iZ,ND _ _ _ hr',aD hy]
   rw [e,vG,dA,aD (by rw [List.any_cons,hy,Bool.true_or])];rw [M9 (by rw [Uf];exact hr')]
   rfl
  have e:iZ acc (y :: r) 0 0=0:=by rw [iZ,ND _ _ _ hr',av hy]
  rw [e,wI];exact M9 (by rw [Uf,List.any_cons,hr',Bool.or_false];simpa using hy)
theorem Xf {props:List aO} {key:Int} {l:List bZ} (h:∀ y∈l,y.key=key) :
  mJ acc rej props key l=(IV key (wK acc rej (Ef l (kT props key),vG l (kT props key))).1 (wK acc rej (Ef l (kT props key),vG l (kT props key))).2,GV (wK acc rej (Ef l (kT props key),vG l (kT props key))).1 (wK acc rej (Ef l (kT props key),vG l (kT props key))).2):=by
 have hle:iZ acc l 0 0<=l.length:=by have:=afK acc l 0 0 (eG _);omega
 unfold mJ wK
 dsimp only;rw [afL,Z5 hle,ahM _ _ _ M hle fun y hy=>h y (List.mem_of_mem_drop hy)]
def Ak (l:List aO):Prop:=l.Pairwise fun x y=>x.key < y.key
theorem get_some {l:List aO} (hs:Ak l) {k v:Int} (h:(⟨k,v⟩:aO)∈l):kT l k=(v,true):=by
 have hh:oU (l.map aO.key) k=true:=by
  rw [Kq (List.pairwise_map.2 (hs.imp fun h=>Int.le_of_lt h)),oM];exact List.mem_map.2 ⟨_,h,M⟩
 obtain ⟨h1,h2⟩:=Kr hh
 unfold kT
 rw [aD hh,List.getD_eq_getElem?_getD,eB h1,Option.getD_some];obtain ⟨j,hj,e⟩:=List.getElem_of_mem h
 have hij:gQ (l.map aO.key) k=j:=by
  rcases Nat.lt_trichotomy (gQ (l.map aO.key) k) j with h3|h3|h3
  ·have:=List.pairwise_iff_getElem.1 hs _ _ h1 hj h3;rw [h2,e] at this;exact absurd this (Int.lt_irrefl _)
  ·exact h3
  have:=List.pairwise_iff_getElem.1 hs _ _ hj h1 h3;rw [h2,e] at this;exact absurd this (Int.lt_irrefl _)
 have e2:l[gQ (l.map aO.key) k]=⟨k,v⟩:=by
  rw [<- e];congr 1
 rw [e2]
theorem get_none {l:List aO} (hs:Ak l) {k:Int} (h:∀ p∈l,p.key≠k):kT l k=(0,false):=by
 unfold kT
 rw [av];intro hh;obtain ⟨h1,h2⟩:=Kr hh;exact h _ (lq h1) h2
theorem get_mem {l:List aO} (hs:Ak l) {k v:Int} (h:kT l k=(v,true)):(⟨k,v⟩:aO)∈l:=by
 by_cases hp:∃ p∈l,p.key=k
 ·obtain ⟨⟨k',v'⟩,hm,e⟩:=hp;dsimp only at e;subst e;rw [get_some hs hm] at h
  injection h with h1 h2
  rw [<- h1];exact hm
 rw [get_none hs fun p hpm e=>hp ⟨p,hpm,e⟩] at h
 injection h with _ h2
 cases h2
theorem aiJ {l:List aO} (hs:Ak l) (p:aO):p∈l↔kT l p.key=(p.value,true):=⟨fun h=>get_some hs h,fun h=>get_mem hs h⟩
theorem axK {l m:List aO} (hl:Ak l) (hm:Ak m) (h:∀ k,kT l k=kT m k):l=m:=by
 have hmem:∀ p,p∈l↔p∈m:=fun p=>by rw [aiJ hl,aiJ hm,h]
 clear h
 induction l generalizing m with
 | nil =>
  cases m with
  | nil=>rfl
  | cons y m=>exact absurd ((hmem y).2 dX) (by simp)
 | cons x l ih =>
  cases m with
  | nil=>exact absurd ((hmem x).1 dX) (by simp)
  | cons y m =>
   obtain ⟨l1,l2⟩:=ql.1 hl;obtain ⟨m1,m2⟩:=ql.1 hm
   have e:x=y:=by
    rcases gK.1 ((hmem x).1 dX) with e|hx
    ·exact e
    rcases gK.1 ((hmem y).2 dX) with e|hy
    ·exact e.symm
    have:=m1 x hx;have:=l1 y hy
    omega
   subst e;rw [ih l2 m2 fun p=>?_]
   constructor
   ·intro hp
    rcases gK.1 ((hmem p).1 (gW _ hp)) with rfl|h
    ·exact absurd (l1 p hp) (Int.lt_irrefl _)
    exact h
   intro hp
   rcases gK.1 ((hmem p).2 (gW _ hp)) with rfl|h
   ·exact absurd (m1 p hp) (Int.lt_irrefl _)
   exact h
theorem ajw {l:List aO} (hs:Ak l) (k v:Int) (p:aO):p∈Bz l k v↔p=⟨k,v⟩∨(p∈l∧p.key≠k):=by
 unfold Bz
 split
 ·rename_i h
  obtain ⟨h1,h2⟩:=Kr h;rw [List.getD_eq_getElem?_getD,eB h1,Option.getD_some,h2]
  have hne:∀ j (hj:j < l.length),j≠gQ (l.map aO.key) k->l[j].key≠k:=fun j hj hn e=>by
   rcases Nat.lt_or_gt_of_ne hn with h3|h3
   ·have:=List.pairwise_iff_getElem.1 hs _ _ hj h1 h3
    omega
   have:=List.pairwise_iff_getElem.1 hs _ _ h1 hj h3
   omega
  constructor
  ·intro hp;obtain ⟨j,hj,e⟩:=List.getElem_of_mem hp;rw [List.length_set] at hj;rw [List.getElem_set] at e
   split at e
   ·exact .inl e.symm
   rename_i hn
   rw [<- e];exact .inr ⟨lq hj,hne j hj fun e=>hn e.symm⟩
  rintro (rfl|⟨hp,hk⟩)
  ·exact List.mem_set (by exact h1) _
  obtain ⟨j,hj,e⟩:=List.getElem_of_mem hp
  have hn:gQ (l.map aO.key) k≠j:=fun e2=>by subst e2;rw [e] at h2;exact hk h2
  have:(l.set (gQ (l.map aO.key) k) ⟨k,v⟩)[j]'(by rw [List.length_set];exact hj)=p:=by rw [List.getElem_set,av hn,e]
  rw [<- this];exact lq _
 rename_i h
 have hne:∀ p∈l,p.key≠k:=fun p hpm he=>by
  rw [Kq (List.pairwise_map.2 (hs.imp fun h=>Int.le_of_lt h)),oM] at h;exact h (List.mem_map.2 ⟨p,hpm,he⟩)
 rw [jQ,gK]
 constructor
 ·rintro (hp|rfl|hp)
  ·exact .inr ⟨List.mem_of_mem_take hp,hne p (List.mem_of_mem_take hp)⟩
  ·exact .inl M
  exact .inr ⟨List.mem_of_mem_drop hp,hne p (List.mem_of_mem_drop hp)⟩
 rintro (rfl|⟨hp,-⟩)
 ·exact .inr (.inl M)
 rw [<- List.take_append_drop (gQ (l.map aO.key) k) l] at hp
 rcases jQ.1 hp with hp|hp
 ·exact .inl hp
 exact .inr (.inr hp)
theorem adS {l:List aO} (hs:Ak l) (k:Int) (p:aO):p∈Aq l k↔p∈l∧p.key≠k:=by
 unfold Aq
 split
 ·rename_i h
  obtain ⟨h1,h2⟩:=Kr h
  have hsp:l=l.take (gQ (l.map aO.key) k)++l[gQ (l.map aO.key) k] :: l.drop (gQ (l.map aO.key) k+1):=by
   rw [List.getElem_cons_drop,List.take_append_drop]
  have hs2:=hs
  unfold Ak at hs2
  rw [hsp,List.pairwise_append,ql] at hs2;obtain ⟨-,⟨b,-⟩,c⟩:=hs2
  constructor
  ·intro hp
   rcases jQ.1 hp with hp|hp
   ·have:=c p hp _ dX;exact ⟨List.mem_of_mem_take hp,O⟩
   have:=b p hp;exact ⟨List.mem_of_mem_drop hp,O⟩
  rintro ⟨hp,hk⟩;rw [hsp] at hp
  rcases jQ.1 hp with hp|hp
  ·exact jQ.2 (.inl hp)
  rcases gK.1 hp with rfl|hp
  ·exact absurd h2 hk
  exact jQ.2 (.inr hp)
 rename_i h
 refine ⟨fun hp=>⟨hp,fun he=>?_⟩,fun hp=>hp.1⟩;rw [Kq (List.pairwise_map.2 (hs.imp fun h=>Int.le_of_lt h)),oM] at h;exact h (List.mem_map.2 ⟨p,hp,he⟩)
theorem asu {l:List aO} (hs:Ak l) {k:Int} {s:kZ} (hw:Ak (vI l k s)) (h0:s.2=false->s.1=0) (k':Int):kT (vI l k s) k'=if k'=k then s else kT l k':=by
 obtain ⟨v,b⟩:=s
 have other:∀ p:aO,p.key≠k->(p∈vI l k (v,b)↔p∈l):=fun p hp=>by
  unfold vI
  split
  ·rw [ajw hs];exact ⟨fun h=>h.elim (fun e=>absurd (by rw [e]) hp) fun h=>h.1,fun h=>.inr ⟨h,hp⟩⟩
  rw [adS hs];exact ⟨fun h=>h.1,fun h=>⟨h,hp⟩⟩
 by_cases hk:k'=k
 ·subst hk;rw [aD M]
  cases b with
  | true =>
   refine get_some hw ?_
   show _∈Bz l k' v
   rw [ajw hs];exact .inl M
  | false =>
   have:=h0 M;dsimp only at this;subst this;refine get_none hw fun p hp=>?_;have hp:p∈Aq l k':=hp;rw [adS hs] at hp;exact hp.2
 rw [av hk]
 by_cases hp:∃ p∈l,p.key=k'
 ·obtain ⟨⟨k2,v2⟩,hm,e⟩:=hp;dsimp only at e;subst e;rw [get_some hs hm];exact get_some hw ((other _ hk).2 hm)
 rw [get_none hs fun p hpm e=>hp ⟨p,hpm,e⟩];exact get_none hw fun p hpm e=>hp ⟨p,(other p (by rw [e];exact hk)).1 hpm,e⟩
end
section
variable {acc rej dM eH eZ iy:Int->Bool}
def nX (k:Int) (l:List bZ):List bZ:=l.filter fun y=>decide (y.key=k)
theorem ahU (k:Int) (a b:List bZ):nX k (a++b)=nX k a++nX k b:=List.filter_append ..
theorem ahT {k:Int} {l:List bZ} (h:∀ y∈l,y.key=k):nX k l=l:=List.filter_eq_self.2 fun y hy=>by simpa using h y hy
theorem Sn {k:Int} {l:List bZ} (h:∀ y∈l,y.key≠k):nX k l=[]:=List.filter_eq_nil_iff.2 fun y hy=>by simpa using h y hy
theorem Y3 {k:Int} {l:List bZ}:∀ y∈nX k l,y.key=k:=fun y hy=>by simpa using (List.mem_filter.1 hy).2
def Mt (l:List bZ):Prop:=l.Pairwise fun x y=>x.key<=y.key
theorem abA {p:Prop} (h:p:=by
 exact List.mem_filter.2 ⟨dX,by simp⟩):p:=h
theorem awm {l m:List bZ} (hl:Mt l) (hm:Mt m) (h:∀ k,nX k l=nX k m):l=m:=by
 induction l generalizing m with
 | nil =>
  cases m with
  | nil=>rfl
  | cons z m =>
   have:=h z.key
   unfold nX at this
   rw [List.filter_cons_of_pos (by simp)] at this
   cases this
 | cons y l ih =>
  cases m with
  | nil =>
   have:=h y.key
   unfold nX at this
   rw [List.filter_cons_of_pos (by simp)] at this
   cases this
  | cons z m =>
   obtain ⟨l1,l2⟩:=ql.1 hl;obtain ⟨m1,m2⟩:=ql.1 hm;have le1:∀ x∈y :: l,y.key<=x.key:=fun x hx=>(gK.1 hx).elim (fun e=>by rw [e];exact Int.le_refl _) (l1 x);have le2:∀ x∈z :: m,z.key<=x.key:=fun x hx=>(gK.1 hx).elim (fun e=>by rw [e];exact Int.le_refl _) (m1 x)
   have a1:z∈nX z.key (y :: l):=by rw [h];exact abA
   have a2:y∈nX y.key (z :: m):=by rw [<- h];exact abA
   have b1:=le1 z (List.mem_filter.1 a1).1;have b2:=le2 y (List.mem_filter.1 a2).1
   have hk:y.key=z.key:=by omega
   have e:=h y.key
   unfold nX at e
   rw [List.filter_cons_of_pos (by simp),List.filter_cons_of_pos (by simp [hk])] at e
   injection e with e1 e2
   subst e1;rw [ih l2 m2 fun k=>?_]
   by_cases hk2:y.key=k
   ·subst hk2;exact e2
   have e3:=h k
   unfold nX at e3
   rwa [List.filter_cons_of_neg (by simpa using hk2),List.filter_cons_of_neg (by simpa using hk2)] at e3
theorem aey {k:Int}:∀ {r:List bZ},(∀ z∈r,k<=z.key)->Mt r->∀ z∈r.dropWhile (fun z=>decide (z.key=k)),k < z.key
 | [],_,_,z,h=>by simp at h
 | w :: r,h1,h2,z,h=>by
  obtain ⟨p1,p2⟩:=ql.1 h2;rw [List.dropWhile_cons] at h
  by_cases e:w.key=k
  ·rw [aD (by simpa using e)] at h;exact aey (fun z hz=>h1 z (gW _ hz)) p2 z h
  rw [av (by simpa using e)] at h;have:=h1 w dX
  rcases gK.1 h with rfl|h
  ·omega
  have:=p1 z h;omega
theorem afR:∀ (f:Nat) (l:List bZ),l.length<=f->Mt l->(qY f l).Pairwise fun p q=>p.1 < q.1
 | 0,l,h,_=>by
  have:l=[]:=List.eq_nil_of_length_eq_zero O;subst this;exact List.Pairwise.nil
 | f+1,[],_,_=>List.Pairwise.nil
 | f+1,y :: r,h,hs=>by
  obtain ⟨p1,p2⟩:=ql.1 hs
  have h2:(r.dropWhile fun z=>decide (z.key=y.key)).length<=f:=by
   exact abH
  have hs2:Mt (r.dropWhile fun z=>decide (z.key=y.key)):=p2.sublist (List.dropWhile_sublist _);have hgt:=aey p1 p2;obtain ⟨e1,e2⟩:=Hg f _ h2;rw [qY];refine ql.2 ⟨fun q hq=>?_,afR f _ h2 hs2⟩;obtain ⟨z,t,hz⟩:=List.exists_cons_of_ne_nil (e2 q hq)
  have hz2:z∈q.2:=by rw [hz];exact dX
  have:=hgt z (by rw [<- e1];exact List.mem_flatMap.2 ⟨q,hq,hz2⟩);rw [NG f _ q hq z hz2] at this;exact this
theorem Xe (props:List aO) (k:Int):mJ acc rej props k []=([],kT props k):=by
 unfold mJ qd
 rw [iZ,List.drop_nil,uH];rfl
theorem aeg {C:bE} {e:Int} {props:List aO} (hp:xD C e props) (k:Int):∀ (L:List (Int × List bZ)) (s:List aO × List bZ),L.Pairwise (fun p q=>p.1 < q.1)->xD C e s.1->(∀ q∈L,q.2≠[]∧∀ y∈q.2,y.key=q.1∧Gj C e y) ->
  kT (um acc rej props L s).1 k=(if k∈L.map Prod.fst then (mJ acc rej props k (nX k (L.flatMap Prod.snd))).2 else kT s.1 k) ∧
   nX k (um acc rej props L s).2=nX k s.2++(mJ acc rej props k (nX k (L.flatMap Prod.snd))).1
 | [],s,_,_,_=>by
  rw [um,List.flatMap_nil,show nX k []=[] from rfl,Xe]
  simp
 | (k0,l0) :: r,s,hw,hs,hL=>by
  obtain ⟨w1,w2⟩:=ql.1 hw;obtain ⟨h1,h2⟩:=hL (k0,l0) dX;have hL2:=fun q hq=>hL q (gW _ hq);obtain ⟨a,b⟩:=afS acc rej hp h1 h2;have hws:=akw hs b;obtain ⟨i1,i2⟩:=aeg hp k r (vI s.1 k0 (mJ acc rej props k0 l0).2,s.2++(mJ acc rej props k0 l0).1) w2 hws hL2;have hg:=asu hs.2 hws.2 b.2.2 k;rw [um,i1,i2,List.flatMap_cons,fD];dsimp only;rw [ahU,ahU,hg]
  by_cases hk:k=k0
  ·subst hk
   have hn:k∉r.map Prod.fst:=fun hm=>by
    obtain ⟨q,hq,e⟩:=List.mem_map.1 hm;have:=w1 q hq;dsimp only at this
    omega
   have hr:nX k (r.flatMap Prod.snd)=[]:=Sn fun y hy e=>by
    obtain ⟨q,hq,hy2⟩:=List.mem_flatMap.1 hy;refine hn (List.mem_map.2 ⟨q,hq,?_⟩);rw [<- ((hL2 q hq).2 y hy2).1];exact e
   rw [av hn,aD M,aD dX,hr,ig,ahT (fun y hy=>(h2 y hy).1),ahT (fun y hy=>(a y hy).1),Xe,ig];exact Gx
  have hl0:nX k l0=[]:=Sn fun y hy e=>hk (by rw [<- e];exact (h2 y hy).1);have hg0:nX k (mJ acc rej props k0 l0).1=[]:=Sn fun y hy e=>hk (by rw [<- e];exact (a y hy).1);rw [hl0,hg0,mO,ig,av hk];refine ⟨?_,M⟩
  by_cases hm:k∈r.map Prod.fst
  ·rw [aD hm,aD (gW _ hm)]
  rw [av hm,av fun h=>(gK.1 h).elim hk hm]
theorem Ng {C:bE} {e:Int} {h:dN} (hh:Jj C e h) (k:Int):kT (iI acc rej h).props k=(mJ acc rej h.props k (nX k h.marks.layers)).2∧nX k (iI acc rej h).marks.layers=(mJ acc rej h.props k (nX k h.marks.layers)).1:=by
 obtain ⟨f1,f2⟩:=Hg h.marks.layers.length h.marks.layers (eG _);obtain ⟨g1,g2⟩:=aeg (acc:=acc) (rej:=rej) hh.ps k (qY h.marks.layers.length h.marks.layers) (h.props,[]) (afR _ _ (eG _) hh.ly.2) hh.ps fun q hq=>⟨f2 q hq,fun y hy=>⟨NG _ _ q hq y hy,hh.ly.1 y (by rw [<- f1];exact List.mem_flatMap.2 ⟨q,hq,hy⟩)⟩⟩;rw [f1] at g1 g2;refine ⟨?_,g2⟩;refine g1.trans ?_
 split
 ·rfl
 rename_i hn
 have:nX k h.marks.layers=[]:=Sn fun y hy e=>by
  rw [<- f1] at hy;obtain ⟨q,hq,hy2⟩:=List.mem_flatMap.1 hy;exact hn (List.mem_map.2 ⟨q,hq,by rw [<- NG _ _ q hq y hy2];exact e⟩)
 rw [this,Xe]
theorem atN {a b:dN} (h1:a.props=b.props) (h2:a.marks.ins=b.marks.ins) (h3:a.marks.move=b.marks.move) (h4:a.marks.bK=b.marks.bK) (h5:a.marks.layers=b.marks.layers):a=b:=by
 obtain ⟨p,⟨i,m,d,l⟩⟩:=a;obtain ⟨p',⟨i',m',d',l'⟩⟩:=b;dsimp only at h1 h2 h3 h4 h5;subst h1 h2 h3 h4 h5
 rfl
theorem Xc {h:dN} (hg:lZ dM eH h):lZ (fI dM eZ) (fI eH iy) h:=by
 rcases hg with ⟨a,b⟩|⟨x,hx,b⟩
 ·exact .inl ⟨a,by unfold fI;rw [b];rfl⟩
 exact .inr ⟨x,hx,by unfold fI;rw [b];rfl⟩
theorem acN {p:Prop} (h:p:=by
 by_cases hq:kU dM h
 ·rw [aD hq,aD (hins.2 (.inl hq)),ite_self]
 rw [av hq]
 by_cases hq2:kU eZ (iI dM eH h)
 ·rw [aD hq2,aD (hins.2 (.inr hq2))]
 rw [av hq2,av fun h=>(hins.1 h).elim hq hq2]):p:=h
theorem QF {C:bE} {e:Int} {h:dN} (hh:Jj C e h) (x1:∀ q,dM q=true->iy q=false) (x2:∀ q,eH q=true->eZ q=false) (hn:¬ lZ dM eH h) :
  (lZ eZ iy (iI dM eH h)↔lZ (fI dM eZ) (fI eH iy) h)∧iI eZ iy (iI dM eH h)=iI (fI dM eZ) (fI eH iy) h:=by
 have g1:=(Nf dM eH hh).1;have g2:=(Nf eZ iy g1).1;have g3:=(Nf (fI dM eZ) (fI eH iy) hh).1;have hi:(iI dM eH h).marks.ins=if kU dM h then 0 else h.marks.ins:=rfl;have hm:(iI dM eH h).marks.move=if kU dM h then 0 else h.marks.move:=rfl;have hd:(iI dM eH h).marks.bK=h.marks.bK.filter fun x=>!eH x.rev:=rfl
 have hr1:h.marks.ins≠0->eH h.marks.ins=false:=fun h0=>by
  cases hr:eH h.marks.ins
  ·rfl
  exact absurd (.inl ⟨h0,hr⟩) hn
 have ha1:∀ x∈h.marks.bK,dM x.rev=false:=fun x hx=>by
  cases hr:dM x.rev
  ·rfl
  exact absurd (.inr ⟨x,hx,hr⟩) hn
 have hins:kU (fI dM eZ) h↔kU dM h∨kU eZ (iI dM eH h):=by
  unfold kU
  rw [hi]
  by_cases hq:kU dM h
  ·rw [aD hq];exact ⟨fun _=>.inl hq,fun _=>⟨hq.1,by unfold fI;rw [hq.2];rfl⟩⟩
  rw [av hq]
  constructor
  ·rintro ⟨a,b⟩
   unfold fI at b
   rw [Bool.or_eq_true] at b;exact b.elim (fun b=>.inl ⟨a,b⟩) fun b=>.inr ⟨a,b⟩
  rintro (h|⟨a,b⟩)
  ·exact absurd h hq
  exact ⟨a,by unfold fI;rw [b,Bool.or_true]⟩
 constructor
 ·unfold lZ
  rw [hi,hd]
  constructor
  ·rintro (⟨a,b⟩|⟨x,hx,b⟩)
   ·by_cases hq:kU dM h
    ·rw [aD hq] at a;exact absurd M a
    rw [av hq] at a b;exact .inl ⟨a,by unfold fI;rw [b,Bool.or_true]⟩
   exact .inr ⟨x,(List.mem_filter.1 hx).1,by unfold fI;rw [b,Bool.or_true]⟩
  rintro (⟨a,b⟩|⟨x,hx,b⟩)
  ·unfold fI at b
   rw [hr1 a,Bool.false_or] at b
   have hq:¬ kU dM h:=fun hq=>by rw [x1 _ hq.2] at b;cases b
   rw [av hq];exact .inl ⟨a,b⟩
  unfold fI at b
  rw [ha1 x hx,Bool.false_or] at b;refine .inr ⟨x,List.mem_filter.2 ⟨hx,?_⟩,b⟩
  cases hr:eH x.rev
  ·rfl
  rw [x2 _ hr] at b;cases b
 have hkey:∀ k,mJ eZ iy (iI dM eH h).props k (nX k (iI dM eH h).marks.layers)=mJ (fI dM eZ) (fI eH iy) h.props k (nX k h.marks.layers):=fun k=>by
  obtain ⟨k1,k2⟩:=Ng (acc:=dM) (rej:=eH) hh k;rw [Xf Y3,k1,k2,Xf (acc:=dM) Y3,Xf (acc:=fI dM eZ) Y3];dsimp only;rw [aiK,aiL,show ∀ q:kZ × List (Int × kZ),(q.1,q.2)=q from fun _=>rfl,aeo x2]
 refine atN (axK g2.ps.2 g3.ps.2 fun k=>?_) ?_ ?_ ?_ (awm g2.ly.2 g3.ly.2 fun k=>?_)
 ·exact (Ng g1 k).1.trans ((cZ Prod.snd (hkey k)).trans (Ng hh k).1.symm)
 ·show (if kU eZ (iI dM eH h) then (0:Int) else (iI dM eH h).marks.ins)=if kU (fI dM eZ) h then 0 else h.marks.ins
  rw [hi]
  exact acN
 ·show (if kU eZ (iI dM eH h) then (0:Int) else (iI dM eH h).marks.move)=if kU (fI dM eZ) h then 0 else h.marks.move
  rw [hm]
  exact acN
 ·show (iI dM eH h).marks.bK.filter (fun x=>!iy x.rev)=h.marks.bK.filter fun x=>!fI eH iy x.rev
  rw [hd,List.filter_filter];refine List.filter_congr fun x _=>?_
  unfold fI
  cases eH x.rev <;> cases iy x.rev <;> rfl
 exact (Ng g1 k).2.trans ((cZ Prod.fst (hkey k)).trans (Ng hh k).2.symm)
end
section
variable {acc rej dM eH eZ iy:Int->Bool}
mutual
theorem axO (x1:∀ q,dM q=true->iy q=false) (x2:∀ q,eH q=true->eZ q=false) (C:bE) (body note:Bool) (t:Int):∀ x:au,mq C body note t x->dW eZ iy (nu dM eH x)=nu (fI dM eZ) (fI eH iy) x
 | .mk k c i tx h f r,hx=>by
  have hf:=S9 x1 x2 C false true t f;have hr:=aiO x1 x2 C note (t+1) r;rw [mq] at hx;obtain ⟨-,-,h3,h4,h5⟩:=hx
  have one:∀ y:au,dW eZ iy [y]=nu eZ iy y:=fun y=>by rw [dW,dW,ig]
  have zero:dW eZ iy []=[]:=by rw [dW]
  rw [nu,nu]
  by_cases hg:lZ dM eH h
  ·rw [aD hg,aD (Xc hg),zero]
  obtain ⟨c1,c2⟩:=QF ((HZ _ _ _).1 h3) x1 x2 hg;rw [av hg]
  by_cases h6:k=6
  ·rw [aD h6,aD h6,one,nu,aD h6,hf (h4 h6),c2]
   simp only [c1]
  rw [av h6,av h6]
  by_cases h7:k=7
  ·rw [aD h7,aD h7];have e:=hr (h5 h7).2
   by_cases hn:(gT dM eH r).length=0
   ·have e2:gT (fI dM eZ) (fI eH iy) r=[]:=by
     rw [<- e,List.eq_nil_of_length_eq_zero hn,gT]
    rw [aD hn,zero,e2]
    simp
   rw [av hn,one,nu,av h6,aD h7,e,c2]
   simp only [c1]
  rw [av h7,av h7,one,nu,av h6,av h7,c2]
  simp only [c1]
theorem axP (x1:∀ q,dM q=true->iy q=false) (x2:∀ q,eH q=true->eZ q=false) (C:bE) (note:Bool) (t:Int):∀ x:aV,pY C note t x->gT eZ iy (pq dM eH x)=pq (fI dM eZ) (fI eH iy) x
 | .mk h cs,hx=>by
  have hc:=aiN x1 x2 C note t cs;rw [pY] at hx
  have one:∀ y:aV,gT eZ iy [y]=pq eZ iy y:=fun y=>by rw [gT,gT,ig]
  have zero:gT eZ iy []=[]:=by rw [gT]
  rw [pq,pq]
  by_cases hg:lZ dM eH h
  ·rw [aD hg,aD (Xc hg),zero]
  obtain ⟨c1,c2⟩:=QF ((HZ _ _ _).1 (Tp.1 hx.1).1) x1 x2 hg;have e:=hc hx.2;rw [av hg]
  by_cases hn:(gD dM eH cs).length=0
  ·have e2:gD (fI dM eZ) (fI eH iy) cs=[]:=by
    rw [<- e,List.eq_nil_of_length_eq_zero hn,gD]
   rw [aD hn,zero,e2]
   simp
  rw [av hn,one,pq,e,c2]
  simp only [c1]
theorem axN (x1:∀ q,dM q=true->iy q=false) (x2:∀ q,eH q=true->eZ q=false) (C:bE) (note:Bool) (t:Int):∀ x:aX,pX C note t x->gD eZ iy (pI dM eH x)=pI (fI dM eZ) (fI eH iy) x
 | .mk i h f,hx=>by
  have hf:=S9 x1 x2 C false note t f;rw [pX] at hx
  have one:∀ y:aX,gD eZ iy [y]=pI eZ iy y:=fun y=>by rw [gD,gD,ig]
  have zero:gD eZ iy []=[]:=by rw [gD]
  rw [pI,pI]
  by_cases hg:lZ dM eH h
  ·rw [aD hg,aD (Xc hg),zero]
  obtain ⟨c1,c2⟩:=QF ((HZ _ _ _).1 hx.1) x1 x2 hg;rw [av hg,one,pI,hf hx.2,c2]
  simp only [c1]
theorem S9 (x1:∀ q,dM q=true->iy q=false) (x2:∀ q,eH q=true->eZ q=false) (C:bE) (body note:Bool) (t:Int):∀ l:List au,iU C body note t l->dW eZ iy (dW dM eH l)=dW (fI dM eZ) (fI eH iy) l
 | [],_=>by rw [dW,dW,dW]
 | x :: l,h=>by
  rw [iU] at h;rw [dW,dW,Tz,axO x1 x2 C body note t x h.1,S9 x1 x2 C body note t l h.2]
theorem aiO (x1:∀ q,dM q=true->iy q=false) (x2:∀ q,eH q=true->eZ q=false) (C:bE) (note:Bool) (t:Int):∀ l:List aV,kL C note t l->gT eZ iy (gT dM eH l)=gT (fI dM eZ) (fI eH iy) l
 | [],_=>by rw [gT,gT,gT]
 | x :: l,h=>by
  rw [kL] at h;rw [gT,gT,ZA,axP x1 x2 C note t x h.1,aiO x1 x2 C note t l h.2]
theorem aiN (x1:∀ q,dM q=true->iy q=false) (x2:∀ q,eH q=true->eZ q=false) (C:bE) (note:Bool) (t:Int):∀ l:List aX,lH C note t l->gD eZ iy (gD dM eH l)=gD (fI dM eZ) (fI eH iy) l
 | [],_=>by rw [gD,gD,gD]
 | x :: l,h=>by
  rw [lH] at h;rw [gD,gD,Zy,axN x1 x2 C note t x h.1,aiN x1 x2 C note t l h.2]
end
def wF (acc rej:Int->Bool) (l:List au):List au:=kK (dW acc rej l)
theorem Ue (l:List au):wF acc rej l=((dW acc rej l).map nI).foldl addN []:=by unfold wF;rw [Bp,Le]
theorem Pn (a b:List au):wF acc rej (a++b)=((dW acc rej b).map nI).foldl addN (wF acc rej a):=by
 rw [Ue,Ue,Tz,kR,List.foldl_append]
theorem aA9 {a b:List au} (h:(dW acc rej a).map nI=(dW acc rej b).map nI):wF acc rej a=wF acc rej b:=by rw [Ue,Ue,h]
theorem add_assoc {X:List au} {z y:au} (hz:¬ qX z) (hy:¬ qX y) (hj:pW z y):addN (addN X z) y=addN X (mU z y):=by
 obtain ⟨j1,j2,j3⟩:=hj
 have hzy:¬ qX (mU z y):=by
  rintro (⟨h,-⟩|⟨-,h⟩)
  ·have:z.kind=7:=h
   omega
  have h2:(z.text++y.text).size=0:=h;rw [ByteArray.size_append] at h2;exact hz (.inr ⟨j2,O⟩)
 by_cases hx:∃ o w,X=o++[w]∧pW w z
 ·obtain ⟨o,w,rfl,k1,k2,k3⟩:=hx;rw [BR hz ⟨k1,k2,k3⟩,BR hy (show pW (mU w z) y from ⟨j1,k2,by show w.head=_;rw [k3,j3]⟩),BR hzy (show pW w (mU z y) from ⟨j2,k2,k3⟩)]
  unfold mU
  simp only [au.kind,au.code,au.id,au.text,au.head,au.flow,au.rows,ByteArray.append_assoc]
 have hn:∀ o w,X=o++[w]->¬ pW w z:=fun o w e h=>hx ⟨o,w,e,h⟩;have hn2:∀ o w,X=o++[w]->¬ pW w (mU z y):=fun o w e h=>hx ⟨o,w,e,j2,h.2.1,h.2.2⟩;rw [Dn hz hn,BR hy ⟨j1,j2,j3⟩,Dn hzy hn2]
theorem TB {x:au} (h:x.kind=1):nu acc rej x=if lZ acc rej x.head then [] else [.mk x.kind x.code x.id x.text (iI acc rej x.head) x.flow x.rows]:=by
 rw [Tx,av (show ¬ x.kind=6 by omega),av (show ¬ x.kind=7 by omega)]
theorem aA8 {out:List au} {y:au} (hc:Ez out):wF acc rej (addN out y)=wF acc rej (out++[y]):=by
 have one:∀ y:au,dW acc rej [y]=nu acc rej y:=fun y=>by rw [dW,dW,ig]
 by_cases hd:qX y
 ·rw [Jt hd,Pn,one]
  rcases hd with ⟨h7,hr⟩|⟨h1,ht⟩
  ·rw [Tx,av (show ¬ y.kind=6 by omega),aD h7,List.eq_nil_of_length_eq_zero hr,gT]
   by_cases hg:lZ acc rej y.head
   ·rw [aD hg];rfl
   rw [av hg,aD (by rfl)];rfl
  rw [TB h1]
  split
  ·rfl
  rw [fD,sP,List.foldl_cons,List.foldl_nil,Jt];rw [nI];exact .inr ⟨h1,ht⟩
 by_cases hj:∃ o z,out=o++[z]∧pW z y
 ·obtain ⟨o,z,rfl,hz⟩:=hj;have hdz:=hc.1 z (by simp);rw [BR hd hz,Pn,jv,Pn,List.singleton_append,one,dW,one,TB hz.2.1,TB (show (mU z y).kind=1 from hz.2.1),TB hz.1]
  show List.foldl addN _ (List.map nI (if lZ acc rej z.head then [] else [.mk z.kind z.code z.id (z.text++y.text) (iI acc rej z.head) z.flow z.rows]))=_
  rw [<- hz.2.2]
  split
  ·rfl
  simp only [fD,sP,List.foldl_cons,List.foldl_nil,List.singleton_append]
  rw [add_assoc]
  ·rw [nI,nI,nI];rfl
  ·rw [nI];exact fun hq=>hq.elim (fun h=>by have h7:z.kind=7:=h.1;have:=hz.2.1;omega) fun h=>hdz (.inr h)
  ·rw [nI];exact fun hq=>hq.elim (fun h=>by have h7:y.kind=7:=h.1;have:=hz.1;omega) fun h=>hd (.inr h)
  rw [nI,nI];exact ⟨hz.1,hz.2.1,M⟩
 rw [Dn hd fun o z e h=>hj ⟨o,z,e,h⟩]
theorem akq:∀ (A out:List au),Ez out->wF acc rej (A.foldl addN out)=wF acc rej (out++A)
 | [],out,_=>by rw [List.foldl_nil,ig]
 | y :: A,out,h=>by
  rw [List.foldl_cons,akq A _ (adH h),Pn,aA8 h,<- Pn,jv];rfl
theorem aam {l:List au} (h:(dW acc rej (mV l)).map nI=(dW acc rej l).map nI):wF acc rej (kK l)=wF acc rej l:=by
 rw [Bp,akq _ _ adK,mO];exact aA9 h
theorem aif (l:List aV):(lG l).length=l.length:=by rw [FE,bS]
theorem aia (l:List aX):(lF l).length=l.length:=by rw [IE,bS]
mutual
theorem ayy:∀ x:au,(nu acc rej (nI x)).map nI=(nu acc rej x).map nI
 | .mk k c i tx h f r=>by
  have hf:=aam (Tm f);have hr:=aiY r
  unfold wF at hf
  rw [Bp f,Bp (dW acc rej ((mV f).foldl addN [])),Bp (dW acc rej f)] at hf
  have e:(gT acc rej (lG r)).length=(gT acc rej r).length:=by
   have:=cZ List.length hr
   rwa [aif,aif] at this
  have hff:=WV (Sz f);have hrr:=Zd r;rw [nI,nu,nu]
  split
  ·rfl
  split
  ·rw [fD,fD,nI,nI,hf,hrr]
  split
  ·rw [e]
   split
   ·rfl
   rw [fD,fD,nI,nI,hr,hff]
  rw [fD,fD,nI,nI,hff,hrr]
theorem ayz:∀ x:aV,lG (pq acc rej (nR x))=lG (pq acc rej x)
 | .mk h cs=>by
  have hc:=aiX cs
  have e:(gD acc rej (lF cs)).length=(gD acc rej cs).length:=by
   have:=cZ List.length hc
   rwa [aia,aia] at this
  rw [nR,pq,pq,e]
  split
  ·rfl
  split
  ·rfl
  simp only [lG,nR,hc]
theorem ayx:∀ x:aX,lF (pI acc rej (nC x))=lF (pI acc rej x)
 | .mk i h f=>by
  have hf:=aam (Tm f)
  unfold wF at hf
  rw [Bp f,Bp (dW acc rej ((mV f).foldl addN [])),Bp (dW acc rej f)] at hf;rw [nC,pI,pI]
  split
  ·rfl
  simp only [lF,nC,hf]
theorem Tm:∀ l:List au,(dW acc rej (mV l)).map nI=(dW acc rej l).map nI
 | []=>by rw [mV]
 | x :: l=>by
  have h1:=ayy x;have h2:=Tm l;rw [mV,dW,dW,kR,kR,h1,h2]
theorem aiY:∀ l:List aV,lG (gT acc rej (lG l))=lG (gT acc rej l)
 | []=>by rw [lG]
 | x :: l=>by
  have h1:=ayz x;have h2:=aiY l
  have app:∀ a b:List aV,lG (a++b)=lG a++lG b:=fun a b=>by rw [FE,FE,FE,kR]
  rw [lG,gT,gT,app,app,h1,h2]
theorem aiX:∀ l:List aX,lF (gD acc rej (lF l))=lF (gD acc rej l)
 | []=>by rw [lF]
 | x :: l=>by
  have h1:=ayx x;have h2:=aiX l
  have app:∀ a b:List aX,lF (a++b)=lF a++lF b:=fun a b=>by rw [IE,IE,IE,kR]
  rw [lF,gD,gD,app,app,h1,h2]
end
theorem akr (l:List au):kK (dW acc rej (kK l))=kK (dW acc rej l):=aam (Tm l)
theorem awy (d:gu):oZ (jJ acc rej (nD d))=⟨kK (dW acc rej d.flow),eU acc rej d.fin,(nD d).revs,d.iH⟩:=by
 show (⟨kK (dW acc rej (kK d.flow)),_,_,_⟩:gu)=_
 rw [akr];rfl
theorem Sy (d:gu):nD d=⟨kK d.flow,d.fin,d.revs.filter (fun r=>decide (r.id∈nP (oZ d))),d.iH⟩:=by
 unfold nD;rw [ahI]
theorem ayJ {d:gu} (h:iT d=0):nD (jJ acc rej (nD d))=nD (jJ acc rej d):=by
 have hu:nP (oZ (jJ acc rej (nD d)))=nP (oZ (jJ acc rej d)):=by rw [awy];rfl
 have hk:∀ q∈nP (oZ (jJ acc rej d)),q∈(nD d).revs.map bV.id:=fun q hq=>by
  rw [<- hu] at hq;obtain ⟨x,hx,e⟩:=List.mem_map.1 (aAY (Zb h) hq);exact List.mem_map.2 ⟨x,(List.mem_filter.1 hx).1,e⟩
 have hr:(nD d).revs.filter (fun r=>decide (r.id∈nP (oZ (jJ acc rej d))))=d.revs.filter fun r=>decide (r.id∈nP (oZ (jJ acc rej d))):=by
  rw [Sy d];dsimp only;rw [List.filter_filter];refine List.filter_congr fun r hr=>?_
  by_cases hq:r.id∈nP (oZ (jJ acc rej d))
  ·obtain ⟨x,hx,e⟩:=List.mem_map.1 (hk _ hq);rw [Sy d] at hx;have h2:=(List.mem_filter.1 hx).2;rw [e] at h2;rw [h2,Bool.and_true]
  rw [mY hq,MH]
 rw [Sy (jJ acc rej (nD d)),Sy (jJ acc rej d),hu]
 show (⟨kK (dW acc rej (kK d.flow)),eU acc rej d.fin,(nD d).revs.filter _,d.iH⟩:gu)=⟨kK (dW acc rej d.flow),eU acc rej d.fin,d.revs.filter _,d.iH⟩
 rw [akr,hr]
theorem arV {d:gu} (h:iT d=0):¬ lZ acc rej d.fin∧Jj d.kS 3 d.fin:=by
 obtain ⟨-,⟨g2,g3⟩,-,-,-⟩:=(Ap _).1 h;refine ⟨?_,(HZ _ _ _).1 g2⟩
 exact abD
theorem ayD {d:gu} (h:iT d=0) (x1:∀ q,dM q=true->iy q=false) (x2:∀ q,eH q=true->eZ q=false):jJ eZ iy (jJ dM eH d)=jJ (fI dM eZ) (fI eH iy) d:=by
 obtain ⟨-,-,g4,-,-⟩:=(Ap _).1 h;obtain ⟨f1,f2⟩:=arV (acc:=dM) (rej:=eH) h;obtain ⟨c1,c2⟩:=QF f2 x1 x2 f1;have e1:=S9 x1 x2 d.kS true false 0 d.flow g4;have a1:eU dM eH d.fin=iI dM eH d.fin:=av f1
 unfold jJ
 dsimp only;rw [e1,a1]
 unfold eU
 simp only [c1,c2]
theorem twice {d:gu} (h:iT d=0) (x1:∀ q,dM q=true->iy q=false) (x2:∀ q,eH q=true->eZ q=false):nD (jJ eZ iy (nD (jJ dM eH d)))=nD (jJ (fI dM eZ) (fI eH iy) d):=by
 rw [ayJ (OI h),ayD h x1 x2]
end
theorem QS:aS 26:=aT func26 M
theorem aef {l:List Int} (h1:l.Pairwise (· < ·)) (h2:∀ x∈l,1<=x∧x<=1000):iX (qW l) l.length=0:=by
 refine Jw fun k hk=>?_;have h3:=h2 _ (lq hk);rw [Wp hk,dK]
 have h4:∀ h0:0 < k,l.getD (k - 1) 0 < l[k]:=fun h0=>by
  rw [List.getD_eq_getElem?_getD,eB (by omega:k - 1 < l.length),Option.getD_some];exact List.pairwise_iff_getElem.1 h1 (k - 1) k O hk O
 rw [av fun h=>by have:=h4 h.1;omega,av fun h=>by have:=h4 h.1;omega]
theorem La {l:List Int} (h:l.Pairwise (· < ·)) (q:Int):lsB l q=decide (q∈l):=Kq (h.imp fun h=>Int.le_of_lt h) q
theorem yF.up {n m:Nat} {d:gu} (h:yF n d) (hm:n<=m):yF m d:=⟨h.z,Nat.le_trans h.fl hm,Nat.le_trans h.hd hm⟩
end Go.Proofs.YtdiflmikikiedaaGreat
