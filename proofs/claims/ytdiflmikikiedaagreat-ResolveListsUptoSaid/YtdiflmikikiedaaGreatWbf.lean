/-
  What the claim stands on, part 6: Hg24 Ne13 Npre Rv24 Dx24 Cd24 Wh24 Dn Mw24 Kt Par Pas L14 L14b L14c It Div Nrm L14d L14e Sl Sm16 Kn24 Eqi En Stq Dms Deq Rl24 Rk24.
-/
import Derived.Test.YtdiflmikikiedaaGreatWbe
namespace Go.Proofs.YtdiflmikikiedaaGreat
set_option linter.all false
open Go.Proofs.Tryz
set_option maxRecDepth 20000
set_option maxHeartbeats 4000000
section
open Go.RowKit
theorem abB {α:Type} {l:List α} {R:α→α→Prop} (htr:∀ a b c,R a b→R b c→R a c) (h:∀ k (hk:k+1 < l.length),R l[k] l[k+1]):l.Pairwise R:=by
 rw [List.pairwise_iff_getElem];intro i j hi hj hij
 induction j with
 | zero=>omega
 | succ j ih =>
  by_cases e:i=j
  ·subst e;exact h i hj
  exact htr _ _ _ (ih (by omega) (by omega)) (h j hj)
def WH (C:bO) (e k v:Int):Prop:=rO e k=true∧rG k v=0∧nQ C.st C.uT k v=0
def xJ (C:bO) (e:Int) (l:List aT):Prop:=(∀ p∈l,WH C e p.key p.value)∧l.Pairwise fun x y=>x.key < y.key
def yO (C:bO) (e k:Int) (s:Int × Bool):Prop:=rO e k=true∧(s.2=true→rG k s.1=0∧nQ C.st C.uT k s.1=0)∧(s.2=false→s.1=0)
def F6 (C:bO) (e:Int) (y:cK):Prop:=y.rev∈C.zM∧yO C e y.key (y.before,y.had)
structure P8 (C:bO) (e:Int) (h:dW):Prop where
 el:1≤e∧e≤10
 ps:xJ C e h.props
 mrk:(h.marks.ins≠0→h.marks.ins∈C.zM)∧(0≤h.marks.move∧h.marks.move≤1073741824)∧(h.marks.move≠0→h.marks.ins≠0)∧h.marks.bL.length≤16
 dl:(∀ x∈h.marks.bL,x.rev∈C.zM∧0≤x.move∧x.move≤1073741824)∧h.marks.bL.Pairwise fun x y=>x.rev < y.rev
 ln:h.marks.layers.length≤64
 ly:(∀ y∈h.marks.layers,F6 C e y)∧h.marks.layers.Pairwise fun x y=>x.key≤y.key
theorem Qz (e:Int):∀ (l:List aT) (q:Option Int),xP e q l=0↔(∀ p∈l,rO e p.key=true∧rG p.key p.value=0)∧(l.Pairwise fun x y=>x.key < y.key)∧∀ j,q=some j→∀ p∈l,j < p.key
 | [],q=>by simp [xP]
 | p :: r,q=>by
  rw [xP];have ih:=Qz e r (some p.key)
  constructor
  ·intro h
   split at h
   ·cases h
   rename_i h1
   split at h
   ·cases h
   rename_i h2
   split at h
   ·cases h
   rename_i h3
   split at h
   ·rename_i h4
    obtain ⟨a,b,c⟩:=ih.1 h
    have hq:∀ j,q=some j→j < p.key:=fun j e=>by
     subst e;rw [DF,lQ] at h3;have:j≠p.key:=fun e=>h2 (by rw [e])
     omega
    refine ⟨fun x hx=>?_,?_,fun j e x hx=>?_⟩
    ·rcases ko.1 hx with rfl|hx
     ·exact ⟨by simpa using h1,h4⟩
     exact a x hx
    ·exact vD.2 ⟨fun y hy=>c _ rfl y hy,b⟩
    rcases ko.1 hx with rfl|hx
    ·exact hq j e
    exact Int.lt_trans (hq j e) (c _ rfl x hx)
   rename_i h4;exact absurd h h4
  rintro ⟨a,b,c⟩;obtain ⟨b1,b2⟩:=vD.1 b;obtain ⟨a1,a2⟩:=a p fM;rw [ah (by simp [a1]),ah (fun e=>by have:=c _ e p fM;omega),ah,av a2]
  ·exact ih.2 ⟨fun x hx=>a x (gH _ hx),b2,fun j e x hx=>by cases e;exact b1 x hx⟩
  intro hl
  cases q with
  | none=>cases hl
  | some j =>
   rw [DF,lQ] at hl;have:=c j rfl p fM;omega
theorem Zo (C:bO) (e:Int) (h:dW):gY C e h=0↔P8 C e h:=by
 constructor
 ·intro hE;have z:=lG hE;have z1:=z (gN e h.props) (by simp);have z2:=z (zL C h.props) (by simp);have z3:=z (jI C h.marks) (by simp);have z4:=z (iH (sV C h.marks.bL) h.marks.bL.length) (by simp);have z5:=z (dx (decide (64 < (h.marks.layers.length:Int))) 9) (by simp);have z6:=z (iH (xX C e h.marks.layers) h.marks.layers.length) (by simp)
  unfold gN at z1
  have hel:¬ (e < 1∨10 < e):=fun h=>by rw [av h] at z1;cases z1
  rw [ah hel,Qz] at z1
  unfold jI at z3
  have hD:∀ k (hk:k < h.marks.bL.length),sW C k h.marks.bL[k] ((h.marks.bL[k - 1]?.map fE.rev).getD 0)=0:=fun k hk=>by
   have h5:=Ei z4 k hk
   unfold sV at h5
   rwa [eO hk] at h5
  have hL:∀ k (hk:k < h.marks.layers.length),wu C e k h.marks.layers[k] ((h.marks.layers[k - 1]?.map cK.key).getD 0)=0:=fun k hk=>by
   have h5:=Ei z6 k hk
   unfold xX at h5
   rwa [eO hk] at h5
  refine ⟨by omega,⟨fun p hp=>⟨(z1.1 p hp).1,(z1.1 p hp).2,?_⟩,z1.2.1⟩,?_,⟨fun x hx=>?_,abB (fun a b c=>Int.lt_trans) fun k hk=>?_⟩,?_,⟨fun y hy=>?_,abB (fun a b c=>Int.le_trans) fun k hk=>?_⟩⟩
  ·exact lG z2 _ (List.mem_map.2 ⟨p,hp,rfl⟩)
  ·split at z3
   ·cases z3
   rename_i a1
   split at z3
   ·cases z3
   rename_i a2
   split at z3
   ·cases z3
   rename_i a3
   exact ⟨fun h0=>Decidable.byContradiction fun hn=>a1 ⟨h0,hn⟩,by omega,by omega,by omega⟩
  ·obtain ⟨k,hk,rfl⟩:=List.getElem_of_mem hx;have h6:=hD k hk
   unfold sW at h6
   split at h6
   ·cases h6
   rename_i a1
   split at h6
   ·cases h6
   split at h6
   ·cases h6
   rename_i a3
   exact ⟨nM.1 a1,by omega⟩
  ·have h6:=hD (k+1) hk;rw [Nat.add_sub_cancel,eO (by omega:k < h.marks.bL.length)] at h6
   unfold sW at h6
   split at h6
   ·cases h6
   split at h6
   ·cases h6
   rename_i a2
   simp only [uo,Option.getD_some] at a2
   omega
  ·unfold dx at z5
   split at z5
   ·cases z5
   rename_i a;simp only [lQ] at a;omega
  ·obtain ⟨k,hk,rfl⟩:=List.getElem_of_mem hy;have h6:=hL k hk
   unfold wu at h6
   split at h6
   ·cases h6
   rename_i a1
   split at h6
   ·cases h6
   rename_i a2
   split at h6
   ·cases h6
   refine ⟨nM.1 a1,by simpa using a2,fun ht=>?_,fun hf=>?_⟩
   ·dsimp only at ht;rw [ah (by rw [ht];decide)] at h6;exact ⟨lG h6 _ fM,lG h6 _ (by simp)⟩
   dsimp only at hf;rw [av hf,xC (by decide)] at h6
   simpa using h6
  have h6:=hL (k+1) hk;rw [Nat.add_sub_cancel,eO (by omega:k < h.marks.layers.length)] at h6
  unfold wu at h6
  split at h6
  ·cases h6
  split at h6
  ·cases h6
  split at h6
  ·cases h6
  rename_i a2
  simp only [uo,Option.getD_some] at a2
  omega
 rintro ⟨hel,⟨hp,hps⟩,⟨m1,m2,m3,m4⟩,⟨d1,d2⟩,hln,⟨l1,l2⟩⟩;refine Ng fun x hx=>?_
 simp only [ko,List.not_mem_nil,or_false] at hx
 rcases hx with rfl|rfl|rfl|rfl|rfl|rfl
 ·unfold gN
  rw [ah (by omega),Qz];exact ⟨fun p h=>⟨(hp p h).1,(hp p h).2.1⟩,hps,fun j e=>by cases e⟩
 ·refine Ng fun x hx=>?_;obtain ⟨p,h1,rfl⟩:=List.mem_map.1 hx;exact (hp p h1).2.2
 ·unfold jI
  rw [ah fun h=>h.2 (m1 h.1),ah fun h=>h.elim (fun h=>h m2) fun h=>m3 h.1 h.2,ah (by omega)]
 ·refine WS fun k hk=>?_
  unfold sV
  rw [eO hk];dsimp only [sW];have:=d1 _ (lD hk);rw [ah fun h=>h this.1,ah,ah fun h=>h this.2];rintro ⟨h0,h1⟩;rw [eO (by omega:k - 1 < h.marks.bL.length)] at h1;have:=List.pairwise_iff_getElem.1 d2 (k - 1) k (by omega) hk (by omega)
  simp only [uo,Option.getD_some] at h1
  omega
 ·rw [xC (by decide),mM];omega
 refine WS fun k hk=>?_
 unfold xX
 rw [eO hk];dsimp only [wu];obtain ⟨a1,a2,a3,a4⟩:=l1 _ (lD hk);rw [ah fun h=>h a1,ah (by simp [a2]),ah]
 ·split
  ·rename_i hf
   rw [xC (by decide)];have:=a4 hf
   simpa using this
  rename_i hf
  obtain ⟨b1,b2⟩:=a3 (by simpa using hf);exact RU.2 ⟨b1,b2⟩
 rintro ⟨h0,h1⟩;rw [eO (by omega:k - 1 < h.marks.layers.length)] at h1;have:=List.pairwise_iff_getElem.1 l2 (k - 1) k (by omega) hk (by omega)
 simp only [uo,Option.getD_some] at h1
 omega
theorem Zd {l:List aT} {k:Int} (h:mW (l.map aT.key) k=true):∃ hi:gX (l.map aT.key) k < l.length,l[gX (l.map aT.key) k].key=k:=by
 have h1:=JW h;rw [bM] at h1;have h2:=mD h;rw [qM,eO h1] at h2;exact ⟨h1,by simpa using h2⟩
theorem akn {C:bO} {e:Int} {l:List aT} (hp:xJ C e l) {k:Int} (hf:rO e k=true):yO C e k (yV l k):=by
 unfold yV
 split
 ·rename_i h
  obtain ⟨h1,h2⟩:=Zd h;have:=(hp.1 _ (lD h1)).2;rw [h2] at this;rw [List.getD_eq_getElem?_getD,eO h1];exact ⟨hf,fun _=>this,fun h=>by cases h⟩
 exact ⟨hf,fun h=>(by cases h),fun _=>rfl⟩
theorem acC {C:bO} {e k:Int} (hf:rO e k=true):yO C e k (0,false):=⟨hf,fun h=>(by cases h),fun _=>rfl⟩
theorem aek {l:List aT} (hs:l.Pairwise fun x y=>x.key < y.key) (k:Int):(∀ p∈l.take (gX (l.map aT.key) k),p.key < k)∧∀ p∈l.drop (gX (l.map aT.key) k),k≤p.key:=by
 have hle:=CZ (l.map aT.key) k;rw [bM] at hle;have hp:(l.map aT.key).Pairwise (·≤·):=List.pairwise_map.2 (hs.imp fun h=>Int.le_of_lt h);obtain ⟨r1,r2⟩:=Xb hp k;refine ⟨fun p h=>?_,fun p h=>?_⟩
 ·obtain ⟨i,hi,rfl⟩:=List.getElem_of_mem h;rw [List.length_take] at hi;have:=r1 i (by rw [bM];omega) (by omega);rw [List.getElem_map] at this;rw [List.getElem_take];exact this
 obtain ⟨i,hi,rfl⟩:=List.getElem_of_mem h;rw [List.length_drop] at hi;have h1:=r2 (by rw [bM];omega);rw [List.getElem_map] at h1;rw [List.getElem_drop]
 by_cases e:i=0
 ·subst e;exact h1
 have:=List.pairwise_iff_getElem.1 hs (gX (l.map aT.key) k) (gX (l.map aT.key) k+i) (by omega) (by omega) (by omega)
 omega
theorem afF {C:bO} {e:Int} {l:List aT} (hp:xJ C e l) (k:Int):xJ C e (C8 l k):=by
 unfold C8
 split
 ·have hs:(l.take (gX (l.map aT.key) k)++l.drop (gX (l.map aT.key) k+1)).Sublist l:=by
   conv=>rhs;rw [← List.take_append_drop (gX (l.map aT.key) k) l]
   exact List.Sublist.append (jT _) (by rw [← List.drop_drop];exact List.drop_sublist _ _)
  exact ⟨fun p h=>hp.1 p (hs.subset h),hp.2.sublist hs⟩
 exact hp
theorem arh {C:bO} {e:Int} {l:List aT} (hp:xJ C e l) {k v:Int} (hk:WH C e k v):xJ C e (DW l k v):=by
 obtain ⟨b1,b2⟩:=aek hp.2 k
 unfold DW
 split
 ·rename_i h
  obtain ⟨h1,h2⟩:=Zd h;rw [List.getD_eq_getElem?_getD,eO h1,Option.getD_some,h2];refine ⟨fun p hpm=>?_,?_⟩
  ·rcases List.mem_or_eq_of_mem_set hpm with h|rfl
   ·exact hp.1 p h
   exact hk
  have e:(l.set (gX (l.map aT.key) k) ⟨k,v⟩).map aT.key=l.map aT.key:=by
   rw [List.map_set];refine List.ext_getElem (by simp) fun i h3 h4=>?_;rw [List.getElem_set]
   split
   ·rename_i hi;subst hi;rw [List.getElem_map,h2]
   rfl
  have:=List.pairwise_map.2 hp.2;rw [← e] at this;exact List.pairwise_map.1 this
 rename_i h
 have hne:∀ p∈l,p.key≠k:=fun p hpm he=>by
  rw [ala (List.pairwise_map.2 (hp.2.imp fun h=>Int.le_of_lt h)),lQ] at h;exact h (List.mem_map.2 ⟨p,hpm,he⟩)
 refine ⟨fun p hpm=>?_,?_⟩
 ·rcases nW.1 hpm with h|h
  ·exact hp.1 p (List.mem_of_mem_take h)
  rcases ko.1 h with rfl|h
  ·exact hk
  exact hp.1 p (List.mem_of_mem_drop h)
 rw [List.pairwise_append];refine ⟨hp.2.sublist (List.take_sublist _ _),vD.2 ⟨fun p h=>?_,hp.2.sublist (List.drop_sublist _ _)⟩,fun p h q hq=>?_⟩
 ·have h1:=b2 p h;have h2:=hne p (List.mem_of_mem_drop h)
  show k < p.key
  omega
 have h1:=b1 p h
 rcases ko.1 hq with rfl|hq
 ·exact h1
 have h2:=b2 q hq
 show p.key < q.key
 omega
theorem asL {C:bO} {e:Int} {l:List aT} (hp:xJ C e l) {k:Int} {s:Int × Bool} (hs:yO C e k s):xJ C e (yG l k s):=by
 unfold yG
 split
 ·rename_i h
  exact arh hp ⟨hs.1,hs.2.1 h⟩
 exact afF hp k
theorem Un {C:bO} {e:Int} (rej:Int→Bool) {wE:List (Int × Bool)} {k:Int} (hf:rO e k=true) (hst:∀ s∈wE,yO C e k s):∀ (l:List cK) (j:Nat) (now:Int × Bool),(∀ y∈l,y.key=k∧y.rev∈C.zM)→yO C e k now →
  (∀ y∈(wo rej wE l j now).1,y.key=k∧F6 C e y∧∃ z∈l,z.rev=y.rev∧rej z.rev=false)∧yO C e k (wo rej wE l j now).2
 | [],_,_,_,hn=>by rw [wo];exact ⟨fun y h=>(by cases h),hn⟩
 | y :: r,j,now,hl,hn=>by
  obtain ⟨h1,h2⟩:=hl y fM;have hl2:=fun z hz=>hl z (gH _ hz);rw [wo]
  split
  ·obtain ⟨a,b⟩:=Un rej hf hst r (j+1) now hl2 hn;refine ⟨fun z hz=>?_,b⟩;obtain ⟨c1,c2,x,c3,c4⟩:=a z hz;exact ⟨c1,c2,x,gH _ c3,c4⟩
  rename_i hr
  have hg:yO C e k (wE.getD (j+1) (0,false)):=by
   rw [List.getD_eq_getElem?_getD]
   cases hx:wE[j+1]? with
   | none=>exact acC hf
   | some s=>exact hst s (kr hx)
  obtain ⟨a,b⟩:=Un rej hf hst r (j+1) _ hl2 hg;refine ⟨fun z hz=>?_,b⟩
  rcases ko.1 hz with rfl|hz
  ·refine ⟨h1,⟨h2,?_⟩,y,fM,rfl,by simpa using hr⟩;dsimp only;rw [h1];exact hn
  obtain ⟨c1,c2,x,c3,c4⟩:=a z hz;exact ⟨c1,c2,x,gH _ c3,c4⟩
theorem R5 (acc:Int→Bool):∀ (l:List cK) (k c:Nat),c≤k→c≤mQ acc l k c
 | [],k,c,_=>by rw [mQ];exact bP _
 | y :: r,k,c,h=>by
  rw [mQ]
  split
  ·have:=R5 acc r (k+1) (k+1) (bP _);omega
  exact R5 acc r (k+1) c (by omega)
theorem YX (acc:Int→Bool):∀ (l:List cK) (k c:Nat),c≤k→∀ y∈l.drop (mQ acc l k c - k),acc y.rev=false
 | [],_,_,_,y,h=>by rw [List.drop_nil] at h;cases h
 | x :: r,k,c,hc,y,h=>by
  rw [mQ] at h
  have hc2:(if acc x.rev=true then k+1 else c)≤k+1:=by split <;> omega
  have ih:=YX acc r (k+1) (if acc x.rev=true then k+1 else c) hc2;have hge:=R5 acc r (k+1) (if acc x.rev=true then k+1 else c) hc2
  by_cases hk:mQ acc r (k+1) (if acc x.rev=true then k+1 else c)≤k
  ·rw [show mQ acc r (k+1) (if acc x.rev=true then k+1 else c) - k=0 by omega,List.drop_zero] at h;rw [show mQ acc r (k+1) (if acc x.rev=true then k+1 else c) - (k+1)=0 by omega,List.drop_zero] at ih
   rcases ko.1 h with rfl|h
   ·cases ha:acc y.rev
    ·rfl
    rw [av ha] at hge hk;omega
   exact ih y h
  rw [show mQ acc r (k+1) (if acc x.rev=true then k+1 else c) - k=(mQ acc r (k+1) (if acc x.rev=true then k+1 else c) - (k+1))+1 by omega,List.drop_succ_cons] at h;exact ih y h
theorem akt {C:bO} {e:Int} (acc rej:Int→Bool) {props:List aT} (hp:xJ C e props) {k:Int} {l:List cK} (hne:l≠[]) (hl:∀ y∈l,y.key=k∧F6 C e y) :
  (∀ y∈(qE acc rej props k l).1,y.key=k∧F6 C e y∧∃ z∈l,z.rev=y.rev∧rej z.rev=false∧acc z.rev=false)∧yO C e k (qE acc rej props k l).2:=by
 have hf:rO e k=true:=by
  obtain ⟨y,r,rfl⟩:=List.exists_cons_of_ne_nil hne;obtain ⟨h1,-,h2,-⟩:=hl y fM;rw [← h1];exact h2
 have hst:∀ s∈pJ props k l,yO C e k s:=fun s hs=>by
  unfold pJ at hs
  rcases nW.1 hs with hs|hs
  ·obtain ⟨y,hy,rfl⟩:=List.mem_map.1 hs;obtain ⟨h1,-,h2⟩:=hl y hy;rw [← h1];exact h2
  rw [sS.1 hs];exact akn hp hf
 unfold qE
 have hn:yO C e k ((pJ props k l).getD (mQ acc l 0 0) (0,false)):=by
  rw [List.getD_eq_getElem?_getD]
  cases hx:(pJ props k l)[mQ acc l 0 0]? with
  | none=>exact acC hf
  | some s=>exact hst s (kr hx)
 obtain ⟨a,b⟩:=Un rej hf hst (l.drop (mQ acc l 0 0)) (mQ acc l 0 0) _ (fun y hy=>⟨(hl y (List.mem_of_mem_drop hy)).1,(hl y (List.mem_of_mem_drop hy)).2.1⟩) hn;refine ⟨fun y hy=>?_,b⟩;obtain ⟨c1,c2,x,c3,c4⟩:=a y hy;exact ⟨c1,c2,x,List.mem_of_mem_drop c3,c4.1,c4.2,YX acc l 0 0 (bP _) x (by simpa using c3)⟩
theorem Y5:∀ (f:Nat) (l:List cK),∀ q∈pV f l,∀ y∈q.2,y.key=q.1
 | 0,_,q,hq=>by cases hq
 | f+1,[],q,hq=>by cases hq
 | f+1,y :: r,q,hq=>by
  rw [pV] at hq
  rcases ko.1 hq with rfl|hq
  ·intro z hz
   rcases ko.1 hz with rfl|hz
   ·rfl
   have:=List.all_takeWhile (l:=r) (p:=fun z=>decide (z.key=y.key));rw [jS] at this
   simpa using this z hz
  exact Y5 f _ q hq
theorem XF {C:bO} {e:Int} (acc rej:Int→Bool) {props:List aT} (hp:xJ C e props):∀ (L:List (Int × List cK)) (s:List aT × List cK),xJ C e s.1→(∀ q∈L,q.2≠[]∧∀ y∈q.2,y.key=q.1∧F6 C e y) →
  xJ C e (vM acc rej props L s).1∧∃ m,(vM acc rej props L s).2=s.2++m∧(m.map cK.key).Sublist ((L.flatMap Prod.snd).map cK.key)∧∀ y∈m,F6 C e y∧∃ z∈L.flatMap Prod.snd,z.rev=y.rev∧rej z.rev=false∧acc z.rev=false
 | [],s,h,_=>by rw [vM];exact ⟨h,[],by simp,jT _,fun y h=>by cases h⟩
 | (k,l) :: r,s,h,hL=>by
  obtain ⟨h1,h2⟩:=hL (k,l) fM;obtain ⟨a,b⟩:=akt acc rej hp h1 h2;have hln:=R7 acc rej props k l;rw [vM];obtain ⟨c,m,d1,d2,d3⟩:=XF acc rej hp r (yG s.1 k (qE acc rej props k l).2,s.2++(qE acc rej props k l).1) (asL h b) fun q hq=>hL q (gH _ hq);refine ⟨c,(qE acc rej props k l).1++m,by rw [d1,jd],?_,fun y hy=>?_⟩
  ·rw [List.flatMap_cons,kQ,kQ];refine List.Sublist.append ?_ d2;have e1:(qE acc rej props k l).1.map cK.key=List.replicate (qE acc rej props k l).1.length k:=List.eq_replicate_iff.2 ⟨by simp,fun x hx=>by obtain ⟨y,hy,rfl⟩:=List.mem_map.1 hx;exact (a y hy).1⟩;have e2:l.map cK.key=List.replicate l.length k:=List.eq_replicate_iff.2 ⟨by simp,fun x hx=>by obtain ⟨y,hy,rfl⟩:=List.mem_map.1 hx;exact (h2 y hy).1⟩;rw [e1,e2];exact (List.replicate_sublist_replicate k).2 hln
  rw [List.flatMap_cons]
  rcases nW.1 hy with hy|hy
  ·obtain ⟨-,c2,x,c3,c4⟩:=a y hy;exact ⟨c2,x,nW.2 (.inl c3),c4⟩
  obtain ⟨c2,x,c3,c4⟩:=d3 y hy;exact ⟨c2,x,nW.2 (.inr c3),c4⟩
theorem afS {C:bO} {e:Int} (acc rej:Int→Bool) {h:dW} (hh:P8 C e h):P8 C e (lF acc rej h)∧∀ y∈(lF acc rej h).marks.layers,∃ z∈h.marks.layers,z.rev=y.rev∧rej z.rev=false∧acc z.rev=false:=by
 obtain ⟨hel,hps,⟨m1,m2,m3,m4⟩,⟨d1,d2⟩,hln,⟨l1,l2⟩⟩:=hh;obtain ⟨f1,f2⟩:=JB h.marks.layers.length h.marks.layers (bP _);obtain ⟨a,m,b1,b2,b3⟩:=XF acc rej hps (pV h.marks.layers.length h.marks.layers) (h.props,[]) hps fun q hq=>⟨f2 q hq,fun y hy=>⟨Y5 _ _ q hq y hy,l1 y (by rw [← f1];exact List.mem_flatMap.2 ⟨q,hq,hy⟩)⟩⟩;rw [f1] at b2 b3;rw [oF] at b1;have hsub:=List.filter_sublist (p:=fun x:fE=>!rej x.rev) (l:=h.marks.bL);have hlen:=b2.length_le;rw [bM,bM] at hlen
 have hmk:(if tN acc h then 0 else h.marks.ins)=0∧(if tN acc h then 0 else h.marks.move)=0∨(if tN acc h then 0 else h.marks.ins)=h.marks.ins∧(if tN acc h then 0 else h.marks.move)=h.marks.move:=by
  by_cases hi:tN acc h
  ·exact .inl ⟨av hi,av hi⟩
  exact .inr ⟨ah hi,ah hi⟩
 refine ⟨⟨hel,a,?_,⟨fun x hx=>d1 x (hsub.subset hx),d2.sublist hsub⟩,?_,⟨fun y hy=>?_,?_⟩⟩,fun y hy=>?_⟩
 ·have hd:=hsub.length_le
  unfold lF
  dsimp only
  rcases hmk with ⟨e1,e2⟩|⟨e1,e2⟩
  ·rw [e1,e2];exact ⟨fun h=>absurd rfl h,by omega,fun h=>absurd rfl h,by omega⟩
  rw [e1,e2];exact ⟨m1,m2,m3,by omega⟩
 ·unfold lF;dsimp only;rw [b1];omega
 ·unfold lF at hy;dsimp only at hy;rw [b1] at hy;exact (b3 y hy).1
 ·unfold lF;dsimp only;rw [b1]
  exact List.pairwise_map.1 ((List.pairwise_map.2 l2).sublist b2)
 unfold lF at hy;dsimp only at hy;rw [b1] at hy;exact (b3 y hy).2
theorem MW {C:bO} {e:Int} (acc rej:Int→Bool) {h:dW} (hh:gY C e h=0):gY C e (lF acc rej h)=0:=(Zo C e _).2 (afS acc rej ((Zo C e h).1 hh)).1
end
section
open Go.RowKit
def Qi (l:List bX):Prop:=l.length≤256∧(∀ x∈l,wI x.author=true∧(0≤x.time∧x.time≤1099511627776)∧1≤x.id∧x.id≤1073741824)∧l.Pairwise fun x y=>x.id < y.id
theorem Qi.sub {l m:List bX} (h:Qi l) (hs:m.Sublist l):Qi m:=⟨Nat.le_trans hs.length_le h.1,fun x hx=>h.2.1 x (hs.subset hx),h.2.2.sublist hs⟩
def uF (A:List oN):Int:=(A.map fun f=>Dy f.items).sum
theorem VB (a b:List oN):uF (a++b)=uF a+uF b:=by simp [uF]
theorem Pv (x:oN) (b:List oN):uF (x :: b)=Dy x.items+uF b:=by simp [uF]
theorem asf (A:List oN):LD A=uF A:=by
 have key:∀ (A:List oN) (n:Int),A.foldl (fun n f=>n+Dy f.items) n=n+uF A:=by
  intro A
  induction A with
  | nil=>intro n;simp [uF]
  | cons x A ih=>intro n;rw [List.foldl_cons,ih,Pv];omega
 rw [LD,key];omega
theorem Us {C:bO} {body note:Bool} {t:Int} {l:List ay} (h:jh C body note t l):Dy l=FB l:=by
 unfold Dy
 rw [av]
 unfold M4
 rw [jS];intro x hx;have h1:=(Ev ((OA x).1 (Cj.1 h x hx)).1).1;refine iT ?_
 unfold LG IJ;rw [av h1];split <;> rfl
theorem ase (k c i:Int) (tx:ByteArray) (h:dW) (f:List ay) (r:List aX):uI (.mk k c i tx h f r)=jl (.mk k c i tx h f r)+(if k=6 then jy f else if k=7 then ni r else 0):=by rw [uI];rfl
mutual
theorem asi (C:bO) (body note:Bool) (t:Int) (n2:Bool) (t2:Int):∀ x:ay,mZ C body note t x→(jl x:Nat)+uF (LK n2 t2 x)=(uI x:Nat)
 | .mk k c i tx h f r,hx=>by
  have hf:=Px C false true t true t2 f;have hr:=acU C note (t+1) n2 t2 r;rw [mZ] at hx;rw [ase,LK]
  by_cases h6:k=6
  ·subst h6;have ho:=hx.2.2.2.1 rfl;have:=hf ho;rw [av rfl,av rfl,Pv];dsimp only;rw [Us ho];push_cast;omega
  by_cases h7:k=7
  ·subst h7;have:=hr (hx.2.2.2.2 rfl).2;rw [ah h6,ah h6,av rfl,av rfl];push_cast;omega
  rw [ah h6,ah h6,ah h7,ah h7];simp [uF]
theorem asj (C:bO) (note:Bool) (t:Int) (n2:Bool) (t2:Int):∀ x:aX,rZ C note t x→uF (LM n2 t2 x)=(uR x:Nat)
 | .mk h cs,hx=>by
  have hc:=acS C note t n2 t2 cs;rw [rZ] at hx;rw [uR,LM];exact hc hx.2
theorem ash (C:bO) (note:Bool) (t:Int) (n2:Bool) (t2:Int):∀ x:bC,rY C note t x→uF (LJ n2 t2 x)=(uC x:Nat)
 | .mk i h f,hx=>by
  have hf:=Px C false note t n2 (t2+1) f;rw [rY] at hx;have:=hf hx.2;rw [uC,LJ,Pv];dsimp only;rw [Us hx.2];omega
theorem Px (C:bO) (body note:Bool) (t:Int) (n2:Bool) (t2:Int):∀ l:List ay,jh C body note t l→(FB l:Nat)+uF (Bg n2 t2 l)=(jy l:Nat)
 | [],_=>by simp [FB,Bg,uF,jy]
 | x :: l,h=>by
  rw [jh] at h;have h1:=asi C body note t n2 t2 x h.1;have h2:=Px C body note t n2 t2 l h.2;rw [FB,Bg,jy,VB];push_cast;omega
theorem acU (C:bO) (note:Bool) (t:Int) (n2:Bool) (t2:Int):∀ l:List aX,lH C note t l→uF (D8 n2 t2 l)=(ni l:Nat)
 | [],_=>by simp [D8,uF,ni]
 | x :: l,h=>by
  rw [lH] at h;have h1:=asj C note t n2 t2 x h.1;have h2:=acU C note t n2 t2 l h.2;rw [D8,ni,VB];push_cast;omega
theorem acS (C:bO) (note:Bool) (t:Int) (n2:Bool) (t2:Int):∀ l:List bC,mK C note t l→uF (D7 n2 t2 l)=(nT l:Nat)
 | [],_=>by simp [D7,uF,nT]
 | x :: l,h=>by
  rw [mK] at h;have h1:=ash C note t n2 t2 x h.1;have h2:=acS C note t n2 t2 l h.2;rw [D7,nT,VB];push_cast;omega
end
theorem acT {C:bO} {body note:Bool} {t:Int} {l:List ay} (h:jh C body note t l):LD (He l)=(jy l:Nat):=by
 have:=Px C body note t false 0 l h;rw [asf,He,Pv];dsimp only;rw [Us h];exact this
theorem aop {d:gG} (h:iO d=0):iO (xY d)=0∧LD (He (lW d.flow))=LD (He d.flow):=by
 obtain ⟨h1,h2,h3,h4,h5⟩:=(MP d).1 h;obtain ⟨e1,e2⟩:=anr h3;exact ⟨(MP (xY d)).2 ⟨h1,h2,abq h3,by show jM [] [] (iQ (lW d.flow));rw [e1];exact h4,by show jy (lW d.flow)≤_;rw [e2];exact h5⟩,by rw [acT (abq h3),acT h3,e2]⟩
end
section
open Go.RowKit
mutual
theorem aoy (C:bO) (body note:Bool) (t:Int):∀ x:ay,mZ C body note t x→Il x
 | .mk k c i tx h f r,hx=>by
  have hf:=Ow C false true t f;have hr:=abh C note (t+1) r;rw [mZ] at hx;obtain ⟨-,-,aaj,Zp⟩:=Ev hx.1;dsimp only [ay.kind,ay.rows,ay.flow] at aaj Zp;rw [Il];refine ⟨?_,?_⟩
  ·by_cases h6:k=6
   ·exact hf (hx.2.2.2.1 h6)
   rw [Zp h6,tQ];trivial
  by_cases h7:k=7
  ·exact hr (hx.2.2.2.2 h7).2
  rw [aaj h7,Ch];trivial
theorem aoz (C:bO) (note:Bool) (t:Int):∀ x:aX,rZ C note t x→DK x
 | .mk h cs,hx=>by
  have hc:=abg C note t cs;rw [rZ] at hx;rw [DK];refine ⟨fun e=>?_,hc hx.2⟩;have z:=lG hx.1 (dx (decide ((cs.length:Int)=0)) 11) (by simp);rw [xC (by decide),e] at z
  simp at z
theorem aox (C:bO) (note:Bool) (t:Int):∀ x:bC,rY C note t x→DI x
 | .mk i h f,hx=>by
  have hf:=Ow C false note t f;rw [rY] at hx;rw [DI];exact hf hx.2
theorem Ow (C:bO) (body note:Bool) (t:Int):∀ l:List ay,jh C body note t l→tQ l
 | [],_=>by rw [tQ];trivial
 | x :: l,h=>by
  rw [jh] at h;rw [tQ];exact ⟨aoy C body note t x h.1,Ow C body note t l h.2⟩
theorem abh (C:bO) (note:Bool) (t:Int):∀ l:List aX,lH C note t l→Ch l
 | [],_=>by rw [Ch];trivial
 | x :: l,h=>by
  rw [lH] at h;rw [Ch];exact ⟨aoz C note t x h.1,abh C note t l h.2⟩
theorem abg (C:bO) (note:Bool) (t:Int):∀ l:List bC,mK C note t l→DJ l
 | [],_=>by rw [DJ];trivial
 | x :: l,h=>by
  rw [mK] at h;rw [DJ];exact ⟨aox C note t x h.1,abg C note t l h.2⟩
end
theorem aoq {d:gG} (hz:xE d):xE (nD d):=⟨Nat.le_trans (VR _) hz.fl,hz.hd,Nat.le_trans (List.length_filter_le _ _) hz.rn,fun x hx=>hz.rt x (List.mem_filter.1 hx).1,hz.sn,hz.st⟩
theorem aaV {d:gG} (hz:xE d) (h:iO d=0):tQ d.flow∧cu (lW d.flow)≤1073741824∧(∀ k∈qZ (xY d),-9223372036854775808≤k∧k < 9223372036854775808)∧(qZ (xY d)).length≤4294967296:=by
 have h0:=(aop h).1;refine ⟨Ow _ _ _ _ _ ((MP d).1 h).2.2.1,Nat.le_trans (VR _) hz.fl,fun q hq=>by have:=asA h0 hq;omega,?_⟩;exact Nat.le_trans (asy h0) hz.rn
end
section
open Go.RowKit
theorem R3 {k c i:Int} {tx:ByteArray} {h h':dW} {f f':List ay} {r r':List aX} (hx:jU (.mk k c i tx h f r)=0) (hf:k≠6→f'=f) (hr:k≠7→r'=r):jU (.mk k c i tx h' f' r')=0:=by
 have e:tq (.mk k c i tx h' f' r')=tq (.mk k c i tx h f r):=by
  rw [mE]
  simp only [tq,Bool.or_eq_true,mq,lQ]
  have c1:vK (.mk k c i tx h' f' r')=vK (.mk k c i tx h f r):=rfl;have c2:wB (.mk k c i tx h' f' r')=wB (.mk k c i tx h f r):=rfl;have c3:yH (.mk k c i tx h' f' r')=yH (.mk k c i tx h f r):=rfl;rw [c1,c2,c3]
  show (((((_∧c≠0)∨(_∧i≠0))∨(_∧(!pU tx)=true))∨(k≠6∧0 < (f'.length:Int)))∨(k≠7∧0 < (r'.length:Int)))↔(((((_∧c≠0)∨(_∧i≠0))∨(_∧(!pU tx)=true))∨(k≠6∧0 < (f.length:Int)))∨(k≠7∧0 < (r.length:Int)))
  by_cases h6:k=6
  ·subst h6;rw [hr (by decide)];simp
  rw [hf h6]
  by_cases h7:k=7
  ·subst h7;simp
  rw [hr h7]
 have e2:codeOk (.mk k c i tx h' f' r')=codeOk (.mk k c i tx h f r):=rfl;have e3:yB (.mk k c i tx h' f' r')=yB (.mk k c i tx h f r):=rfl
 unfold jU at hx ⊢
 rw [e,e2,e3];exact hx
theorem Ij (k c i:Int) (tx:ByteArray) (h:dW) (f:List ay) (r:List aX):pF (.mk k c i tx h f r)=(if k=6∨k=7 then [i] else [])++(if k=6 then iQ f else if k=7 then lV r else []):=by
 rw [pF]
 by_cases h6:k=6
 ·rw [av h6,av h6,ah (show ¬ k=7 by omega),gD]
 rw [ah h6,ah h6,oF]
theorem aav:∀ a b:List aX,lV (a++b)=lV a++lV b
 | [],b=>by simp [lV]
 | x :: a,b=>by simp [lV,aav a b]
theorem aau:∀ a b:List bC,mY (a++b)=mY a++mY b
 | [],b=>by simp [mY]
 | x :: a,b=>by simp [mY,aau a b]
theorem acP:∀ a b:List aX,ni (a++b)=ni a+ni b
 | [],b=>by simp [ni]
 | x :: a,b=>by simp [ni,acP a b];omega
theorem acO:∀ a b:List bC,nT (a++b)=nT a+nT b
 | [],b=>by simp [nT]
 | x :: a,b=>by simp [nT,acO a b];omega
theorem abL {C:bO} {h:dW} {n:Nat}:Cn C h n=0↔gY C 9 h=0∧n≠0∧n≤32:=by
 constructor
 ·intro h;have z:=lG h;have z2:=z (dx (decide ((n:Int)=0)) 11) (by simp);have z3:=z (dx (decide (32 < (n:Int))) 9) (by simp);rw [xC (by decide),mM] at z2 z3;exact ⟨z _ fM,by omega,by omega⟩
 rintro ⟨h1,h2,h3⟩;refine Ng fun x hx=>?_
 simp only [ko,List.not_mem_nil,or_false] at hx
 rcases hx with rfl|rfl|rfl
 ·exact h1
 ·rw [xC (by decide),mM];omega
 rw [xC (by decide),mM];omega
variable {acc rej:Int→Bool}
mutual
theorem apW (C:bO) (body note:Bool) (t:Int):∀ x:ay,mZ C body note t x→jh C body note t (qY acc rej x)∧(iQ (qY acc rej x)).Sublist (pF x)∧jy (qY acc rej x)≤uI x
 | .mk k c i tx h f r,hx=>by
  have hf:=OO C false true t f;have hr:=abK C note (t+1) r;rw [mZ] at hx;obtain ⟨h1,h2,h3,h4,h5⟩:=hx;have hd:=MW acc rej h3;have nil:jh C body note t []∧(iQ []).Sublist (pF (.mk k c i tx h f r))∧jy []≤uI (.mk k c i tx h f r):=⟨by rw [jh];trivial,by rw [iQ];exact List.nil_sublist _,by rw [jy];exact gW _⟩;have one:∀ y:ay,mZ C body note t y→(pF y).Sublist (pF (.mk k c i tx h f r))→uI y≤uI (.mk k c i tx h f r)→jh C body note t [y]∧(iQ [y]).Sublist (pF (.mk k c i tx h f r))∧jy [y]≤uI (.mk k c i tx h f r):=fun y a b c=>⟨by rw [jh,jh];exact ⟨a,aU⟩,by rw [iQ,iQ,gD];exact b,by rw [jy,jy];exact c⟩;rw [qY]
  split
  ·exact nil
  split
  ·rename_i h6
   obtain ⟨a1,a2,a3⟩:=hf (h4 h6);refine one _ ?_ ?_ ?_
   ·rw [mZ];exact ⟨R3 h1 (fun h=>absurd h6 h) fun _=>rfl,h2,hd,fun _=>a1,fun h=>absurd h (by omega)⟩
   ·rw [Ij,Ij];rw [av h6,av h6];exact (jT _).append a2
   rw [uI,uI,av h6,av h6];omega
  split
  ·rename_i h6 h7
   split
   ·exact nil
   rename_i hn
   obtain ⟨h5,h8⟩:=h5 h7;obtain ⟨a1,a2,a3⟩:=hr h8;have hl:=OT (acc:=acc) (rej:=rej) r;refine one _ ?_ ?_ ?_
   ·rw [mZ];exact ⟨R3 h1 (fun _=>rfl) fun h=>absurd h7 h,h2,hd,fun h=>absurd h h6,fun _=>⟨⟨hn,by omega⟩,a1⟩⟩
   ·rw [Ij,Ij];rw [ah h6,ah h6,av h7,av h7];exact (jT _).append a2
   rw [uI,uI,ah h6,ah h6,av h7,av h7];omega
  rename_i h6 h7
  refine one _ ?_ ?_ ?_
  ·rw [mZ];exact ⟨R3 h1 (fun _=>rfl) fun _=>rfl,h2,hd,fun h=>absurd h h6,fun h=>absurd h h7⟩
  ·rw [Ij,Ij];exact jT _
  rw [uI,uI];exact bP _
theorem apX (C:bO) (note:Bool) (t:Int):∀ x:aX,rZ C note t x→lH C note t (sD acc rej x)∧(lV (sD acc rej x)).Sublist (tL x)∧ni (sD acc rej x)≤uR x
 | .mk h cs,hx=>by
  have hc:=abJ C note t cs;rw [rZ] at hx;obtain ⟨h1,h2⟩:=hx;obtain ⟨a1,a2,a3⟩:=hc h2;have hl:=OQ (acc:=acc) (rej:=rej) cs;have nil:lH C note t []∧(lV []).Sublist (tL (.mk h cs))∧ni []≤uR (.mk h cs):=⟨by rw [lH];trivial,by rw [lV];exact List.nil_sublist _,by rw [ni];exact gW _⟩;rw [sD]
  split
  ·exact nil
  split
  ·exact nil
  rename_i hn
  rw [lH,lH,lV,lV,ni,ni,rZ,tL,tL,uR,uR,gD];refine ⟨⟨⟨?_,a1⟩,aU⟩,a2,a3⟩;obtain ⟨z1,z2,z3⟩:=abL.1 h1;exact abL.2 ⟨MW acc rej z1,hn,by omega⟩
theorem apV (C:bO) (note:Bool) (t:Int):∀ x:bC,rY C note t x→mK C note t (uX acc rej x)∧(mY (uX acc rej x)).Sublist (uQ x)∧nT (uX acc rej x)≤uC x
 | .mk i h f,hx=>by
  have hf:=OO C false note t f;rw [rY] at hx;obtain ⟨h1,h2⟩:=hx;obtain ⟨a1,a2,a3⟩:=hf h2;rw [uX]
  split
  ·exact ⟨by rw [mK];trivial,by rw [mY];exact List.nil_sublist _,by rw [nT];exact gW _⟩
  rw [mK,mK,mY,mY,nT,nT,rY,uQ,uQ,uC,uC,gD];exact ⟨⟨⟨MW acc rej h1,a1⟩,aU⟩,(jT [i]).append a2,a3⟩
theorem OO (C:bO) (body note:Bool) (t:Int):∀ l:List ay,jh C body note t l→jh C body note t (fB acc rej l)∧(iQ (fB acc rej l)).Sublist (iQ l)∧jy (fB acc rej l)≤jy l
 | [],_=>by rw [fB];exact ⟨by rw [jh];trivial,jT _,bP _⟩
 | x :: l,h=>by
  rw [jh] at h;obtain ⟨a1,a2,a3⟩:=apW C body note t x h.1;obtain ⟨b1,b2,b3⟩:=OO C body note t l h.2;rw [fB,KH,Lm,iQ,jy];exact ⟨Cj.2 fun y hy=>(nW.1 hy).elim (Cj.1 a1 y) (Cj.1 b1 y),a2.append b2,by omega⟩
theorem abK (C:bO) (note:Bool) (t:Int):∀ l:List aX,lH C note t l→lH C note t (jE acc rej l)∧(lV (jE acc rej l)).Sublist (lV l)∧ni (jE acc rej l)≤ni l
 | [],_=>by rw [jE];exact ⟨by rw [lH];trivial,jT _,bP _⟩
 | x :: l,h=>by
  rw [lH] at h;obtain ⟨a1,a2,a3⟩:=apX C note t x h.1;obtain ⟨b1,b2,b3⟩:=abK C note t l h.2;rw [jE,aav,acP,lV,ni];exact ⟨OB.2 fun y hy=>(nW.1 hy).elim (OB.1 a1 y) (OB.1 b1 y),a2.append b2,by omega⟩
theorem abJ (C:bO) (note:Bool) (t:Int):∀ l:List bC,mK C note t l→mK C note t (iq acc rej l)∧(mY (iq acc rej l)).Sublist (mY l)∧nT (iq acc rej l)≤nT l
 | [],_=>by rw [iq];exact ⟨by rw [mK];trivial,jT _,bP _⟩
 | x :: l,h=>by
  rw [mK] at h;obtain ⟨a1,a2,a3⟩:=apV C note t x h.1;obtain ⟨b1,b2,b3⟩:=abJ C note t l h.2;rw [iq,aau,acO,mY,nT];exact ⟨Oz.2 fun y hy=>(nW.1 hy).elim (Oz.1 a1 y) (Oz.1 b1 y),a2.append b2,by omega⟩
end
def kN (acc rej:Int→Bool) (d:gG):gG:=⟨fB acc rej d.flow,aY acc rej d.fin,d.revs,d.iw⟩
theorem abO {d:gG} (h:iO d=0):iO (kN acc rej d)=0:=by
 rw [MP] at h ⊢;obtain ⟨h1,⟨h2,h3⟩,h4,h5,h6⟩:=h;obtain ⟨a1,a2,a3⟩:=OO (acc:=acc) (rej:=rej) _ true false 0 d.flow h4
 unfold qW at h3
 rw [mM] at h3;have hd:d.fin.marks.bL=[]:=List.eq_nil_of_length_eq_zero (by omega)
 have hg:¬ kX acc rej d.fin:=fun h=>h.elim (fun h=>h3 (.inl (.inl h.1))) fun ⟨x,hx,_⟩=>by rw [hd] at hx;cases hx
 have ha:aY acc rej d.fin=lF acc rej d.fin:=ah hg;refine ⟨h1,⟨?_,?_⟩,a1,h5.sub a2,by show jy (fB acc rej d.flow)≤_;omega⟩
 ·show gY d.nY 3 (aY acc rej d.fin)=0
  rw [ha];exact MW acc rej h2
 show qW (aY acc rej d.fin).marks=false
 rw [ha]
 unfold qW lF
 rw [mM];dsimp only;rw [hd];rintro ((h|h)|h)
 ·split at h
  ·exact h rfl
  exact h3 (.inl (.inl h))
 ·split at h
  ·exact h rfl
  exact h3 (.inl (.inr h))
 simp at h
structure ug (n:Nat) (d:gG):Prop where
 z:xE d
 fl:cu d.flow≤n
 hd:kV d.fin≤n
theorem UF {n:Nat} {d:gG} (h:ug n d):ug n (nD d):=⟨aoq h.z,Nat.le_trans (VR _) h.fl,h.hd⟩
theorem Iw {n:Nat} {d:gG} (h:ug n d) (hn:2*n≤1073741824) (hn0:16≤n):ug (2*n) (kN acc rej d):=by
 have h1:=OU (acc:=acc) (rej:=rej) d.flow
 have h2:kV (aY acc rej d.fin)≤2*n:=by
  unfold aY
  split
  ·show kV zQ≤_
   simp [D9,zQ,eG];try omega
  have:=MX (acc:=acc) (rej:=rej) d.fin;have:=h.hd;omega
 have h3:=h.fl;refine ⟨⟨by show cu (fB acc rej d.flow)≤_;omega,Nat.le_trans h2 (by omega),h.z.rn,h.z.rt,h.z.sn,h.z.st⟩,by show cu (fB acc rej d.flow)≤_;omega,h2⟩
end
section
open Go.RowKit
theorem Rz:∀ args w,(callFunc 96 args).run prog w=.ok (.enter 96 args) w:=enters func96 rfl (by kernel_rfl)
instance RL:dS prog 43 0 0:=⟨by kernel_rfl⟩
theorem Ru:∀ args w,(callFunc 76 args).run prog w=.ok (.enter 76 args) w:=enters func76 rfl (by kernel_rfl)
instance YB:dS prog 43 1 1:=⟨by kernel_rfl⟩
theorem aiR:∀ args w,(callFunc 97 args).run prog w=.ok (.enter 97 args) w:=enters func97 rfl (by kernel_rfl)
theorem aiw:∀ args w,(callFunc 46 args).run prog w=.ok (.enter 46 args) w:=enters func46 rfl (by kernel_rfl)
theorem aiS:∀ args w,(callFunc 99 args).run prog w=.ok (.enter 99 args) w:=enters func99 rfl (by kernel_rfl)
theorem aix:∀ args w,(callFunc 48 args).run prog w=.ok (.enter 48 args) w:=enters func48 rfl (by kernel_rfl)
theorem agz:∀ args w,(callFunc 118 args).run prog w=.ok (.enter 118 args) w:=enters func118 rfl (by kernel_rfl)
theorem nk.Ot {acc rej:Int→Bool} {h:dW} {G:GH} {p d l:aj} (hh:fC G (aY acc rej h) p d l):nk acc rej h (.tuple #[.agg #[p,vi (aY acc rej h).marks.ins,vi (aY acc rej h).marks.move,d,l],.bool (!decide (kX acc rej h))]) G:=by
 unfold nk
 by_cases hg:kX acc rej h
 ·have e:aY acc rej h=zQ:=av hg;rw [av hg,iT hg];rw [e] at hh ⊢;exact ⟨p,d,l,rfl,hh⟩
 have e:aY acc rej h=lF acc rej h:=ah hg;rw [ah hg,jc hg];rw [e] at hh ⊢;exact ⟨p,d,l,rfl,hh⟩
theorem asH (G:GH):Bq (.func (.func 97) #[] #[]) G (fun _=>false) fun _=>true:=by
 intro G1 w0 hm hG r;refine iN (caps:=[]) aiR ?_;refine eN [(0,_)] func97 rfl ntmps97 rfl rfl hG ?_;refine ak 8 ?_;intro a H;refine bZ ?_;refine (eT H results97 (.cons (bq H rfl) (.cons (bq H rfl) .nil)) ?_).1;exact H.rt rfl
theorem aqj (G:GH):Bp (.func (.func 46) #[] #[]) G (fun _=>false) fun _=>true:=by
 intro G1 w0 hm hG h p d l hh hz;refine iN (caps:=[]) aiw ?_;obtain ⟨pA,pn,pc,rfl⟩:=hh.props.form;obtain ⟨dA,dn,dc,rfl⟩:=hh.bL.form;obtain ⟨lA,ln,lc,rfl⟩:=hh.layers.form;refine eN [(0,_)] func46 rfl ntmps46 rfl rfl hG ?_;refine ak 1 ?_;intro a H;refine dP (cs:=[_,_,_,_,_]) H wn rfl rfl rfl ?_;clear H;intro b1 a w hb1 H;refine dz dw H wn rfl ?_;clear H;intro b2 a w hb2 H;refine aD 3 H ?_;clear H;intro a H;refine aS dw (cs:=[_,_,_,_,_]) H wn rfl rfl (H.hp.bN 1 rfl rfl) rfl ?_;clear H;intro a H;refine s_call Rz H wn rfl (UA _ _ H.ro _ _ _ (asH _) rfl h _ _ _ hh hz) rfl ?_;clear H;rintro v5 G5 a w hd5 Dl H;obtain ⟨q1,q2,q3,q4,q5,q6,q7,q8,q9,rfl,qU⟩:=hd5.ans;(iterate 2 refine jK H wn rfl rfl rfl ?_;clear H;intro a H);refine aV dw 0 (vs:=[_,_,_,_,_]) _ H wn rfl rfl rfl rfl rfl rfl rfl rfl ?_;clear H;intro w H;dsimp only [List.set,setRow] at H;refine aD 2 H ?_;clear H;intro a H;refine bZ ?_;refine (eT H results46 (.cons (kF dw (cs:=[_,_,_,_,_]) H rfl rfl (H.hp.bN 0 rfl rfl)) (.cons (bq H rfl) .nil)) ?_).1;exact H.rt (nk.Ot qU)
theorem asG (G:GH):Bq (.func (.func 99) #[] #[]) G (fun _=>true) fun _=>false:=by
 intro G1 w0 hm hG r;refine iN (caps:=[]) aiS ?_;refine eN [(0,_)] func99 rfl ntmps99 rfl rfl hG ?_;refine ak 8 ?_;intro a H;refine bZ ?_;refine (eT H results99 (.cons (bq H rfl) (.cons (bq H rfl) .nil)) ?_).1;exact H.rt rfl
theorem aqi (G:GH):Bp (.func (.func 48) #[] #[]) G (fun _=>true) fun _=>false:=by
 intro G1 w0 hm hG h p d l hh hz;refine iN (caps:=[]) aix ?_;obtain ⟨pA,pn,pc,rfl⟩:=hh.props.form;obtain ⟨dA,dn,dc,rfl⟩:=hh.bL.form;obtain ⟨lA,ln,lc,rfl⟩:=hh.layers.form;refine eN [(0,_)] func48 rfl ntmps48 rfl rfl hG ?_;refine ak 1 ?_;intro a H;refine dP (cs:=[_,_,_,_,_]) H wn rfl rfl rfl ?_;clear H;intro b1 a w hb1 H;refine dz dw H wn rfl ?_;clear H;intro b2 a w hb2 H;refine aD 3 H ?_;clear H;intro a H;refine aS dw (cs:=[_,_,_,_,_]) H wn rfl rfl (H.hp.bN 1 rfl rfl) rfl ?_;clear H;intro a H;refine s_call Rz H wn rfl (UA _ _ H.ro _ _ _ (asG _) rfl h _ _ _ hh hz) rfl ?_;clear H;rintro v5 G5 a w hd5 Dl H;obtain ⟨q1,q2,q3,q4,q5,q6,q7,q8,q9,rfl,qU⟩:=hd5.ans;(iterate 2 refine jK H wn rfl rfl rfl ?_;clear H;intro a H);refine aV dw 0 (vs:=[_,_,_,_,_]) _ H wn rfl rfl rfl rfl rfl rfl rfl rfl ?_;clear H;intro w H;dsimp only [List.set,setRow] at H;refine aD 2 H ?_;clear H;intro a H;refine bZ ?_;refine (eT H results48 (.cons (kF dw (cs:=[_,_,_,_,_]) H rfl rfl (H.hp.bN 0 rfl rfl)) (.cons (bq H rfl) .nil)) ?_).1;exact H.rt (nk.Ot qU)
abbrev lsB (l:List Int):Int→Bool:=fun k=>mW l k
theorem asF {G:GH} {b:Nat} {A R:List Int} {va vr:aj} (ha:aI G b 0=some va) (hr:aI G b 1=some vr) (hva:au G (.sl 1 (A.map fun k=>[li k])) va) (mI:au G (.sl 1 (R.map fun k=>[li k])) vr) (hla:A.length≤4294967296) (hlr:R.length≤4294967296) :
  Bq (.func (.func 118) #[] #[(aG b 0)]) G (lsB A) (lsB R):=by
 intro G1 w0 hm hG r;refine iN (caps:=[(aG b 0)]) agz ?_;replace ha:=aH hm ha;replace hr:=aH hm hr;replace hva:=hva.mono hm;replace mI:=mI.mono hm;refine eN [(0,_),(1,_)] func118 rfl ntmps118 rfl rfl hG ?_;refine ak 5 ?_;intro a H;refine dI hmx [[],[0],[],[0,1,2],[],[4],[],(ra 0 7),(ra 0 8),(ra 0 9)] [8,9] (by kernel_rfl) [_,_,_,.bool (lsB A r),_,_,_,.bool (lsB R r)] H (aF (Z0 rfl (Rf RL rfl)) (X1 0 5 rfl fun hG=>Rg Bb rfl (aH hG ha)) (Z0 rfl (Rm rfl)) ?_ (aF (Z0 rfl (Rf YB rfl)) (X1 4 9 rfl fun hG=>Rg Bb rfl (aH hG hr)) (Z0 rfl (Rm rfl)) ?_ (bH (bQ rfl) (bH (bQ rfl) cZ)))) ?_
 ·refine dH 1 6 2 7 rfl rfl fun _ a w G1 hG HT H fin=>?_;refine s_call Ru H wn rfl (UC _ _ H.ro A r _ (hva.mono hG) hla) rfl ?_;clear H;rintro v8 G8 a w rfl nO H;exact fin H nO (rfl)
 ·refine dH 5 10 6 11 rfl rfl fun _ a w G1 hG HT H fin=>?_;refine s_call Ru H wn rfl (UC _ _ H.ro R r _ (mI.mono hG) hlr) rfl ?_;clear H;rintro v12 zT a w rfl mV H;exact fin H mV (rfl)
 clear H;intro a w G iP H hv;have H:=H.aN (hv 3 8 rfl rfl) rfl;have H:=H.aN (hv 7 12 rfl rfl) rfl;clear hv;refine kH H (Ra rfl (Ra rfl ?_));clear H;intro a H;refine aC ⟨rfl,?_⟩;refine dR ?_;refine bZ ?_;refine (eT H results118 (.cons (bq H rfl) (.cons (bq H rfl) .nil)) ?_).1;exact H.rt rfl
theorem KL (G:GH) (w0:World) (hG:Hold G w0) (A R:List Int) (aA rA:Option Addr) (an ac rn rc:Nat) (hva:au G (.sl 1 (A.map fun k=>[li k])) (.slice aA an ac)) (mI:au G (.sl 1 (R.map fun k=>[li k])) (.slice rA rn rc)) (hla:A.length≤4294967296) (hlr:R.length≤4294967296) (h:dW) (p d l:aj) (hh:fC G h p d l) (hz:kV h≤1073741824) :
  Calls prog 65 #[pq h p d l,.agg #[.slice aA an ac,.slice rA rn rc]] w0 (bB w0 G (nk (lsB A) (lsB R) h)):=by
 obtain ⟨pA,pn,pc,rfl⟩:=hh.props.form;obtain ⟨dA,dn,dc,rfl⟩:=hh.bL.form;obtain ⟨lA,ln,lc,rfl⟩:=hh.layers.form;refine eN [(0,_),(1,_)] func65 rfl ntmps65 rfl rfl hG ?_;refine ak 1 ?_;intro a H;refine dP (cs:=[_,_,_,_,_]) H wn rfl rfl rfl ?_;clear H;intro b2 a w hb2 H;refine dP (cs:=[_,_]) H wn rfl rfl rfl ?_;clear H;intro b3 a w hb3 H;refine dz dw H wn rfl ?_;clear H;intro b4 a w hb4 H;refine aD 2 H ?_;clear H;intro a H;have H:=H.dY (Pl:=[_,_,_]) (dM:=[_,_,_]) [1,0,2] (by decide) rfl;obtain ⟨Ga,hma,hb',H⟩:=H.dZ;have hga:=fun j v hj=>kL hb' 0 [.slice aA an ac,.slice rA rn rc] rfl j v hj;refine Am ?_;refine aS dw (cs:=[_,_,_,_,_]) H wn rfl rfl (H.hp.bN 1 rfl rfl) rfl ?_;clear H;intro a H;refine nS H wn rfl rfl ?_;clear H;intro a H;refine s_call Rz H wn rfl (UA _ _ H.ro _ _ _ (asF (hga 0 _ rfl) (hga 1 _ rfl) (hva.mono hma) (mI.mono hma) hla hlr) rfl h _ _ _ (hh.mono hma) hz) rfl ?_;clear H;rintro v8 G8 a w hd8 mG H;obtain ⟨q1,q2,q3,q4,q5,q6,q7,q8,q9,rfl,Hu⟩:=hd8.ans;(iterate 2 refine jK H wn rfl rfl rfl ?_;clear H;intro a H);refine aV dw 0 (vs:=[_,_,_,_,_]) _ H wn rfl rfl rfl rfl rfl rfl rfl rfl ?_;clear H;intro w H;dsimp only [List.set,setRow] at H;refine aD 2 H ?_;clear H;intro a H;refine bZ ?_;refine (eT H results65 (.cons (kF dw (cs:=[_,_,_,_,_]) H rfl rfl (H.hp.bN 0 rfl rfl)) (.cons (bq H rfl) .nil)) ?_).1;exact H.rt (nk.Ot Hu)
end
section
open Go.RowKit
theorem agK:∀ args w,(callFunc 135 args).run prog w=.ok (.enter 135 args) w:=enters func135 rfl (by kernel_rfl)
theorem Pw:prog.underlying 134=some (.slice 41):=by kernel_rfl
instance:kg prog 134 (.slice 41):=⟨Pw⟩
theorem aiM:∀ args w,(callFunc 74 args).run prog w=.ok (.enter 74 args) w:=enters func74 rfl (by kernel_rfl)
theorem aiN:∀ args w,(callFunc 75 args).run prog w=.ok (.enter 75 args) w:=enters func75 rfl (by kernel_rfl)
theorem anx (G:GH) (w0:World) (hG:Hold G w0) (l:List Int) (p:Int→Bool) (v fv:aj) (hv:au G (.sl 1 (l.map fun k=>[li k])) v) (hf:yL fv G p) (hl:l.length≤4294967296) :
  Calls prog 135 #[v,fv] w0 (bB w0 G fun u G'=>u=vi (mJ (l.findIdx? p))):=by
 obtain ⟨A,c,rfl,hc1,hc2,-⟩:=hv.slice;rw [bM] at *;refine eN [(0,_),(1,_)] func135 rfl ntmps135 rfl rfl hG ?_;refine ak 10 ?_;intro a H;refine eH (ι:=Nat × GH) (Tc:=[(0,_),(1,_),(7,_)]) (Lc:=[]) (fun gh=>[(8,vi gh.1)]) (fun gh=>[]) (fun gh=>gh.2) (fun gh=>gh.1≤l.length∧(l.take gh.1).findIdx? p=none∧(∀ b o,G b=some o→gh.2 b=some o)) (fun gh=>l.length - gh.1) ((0,G)) sB ?_ ?_
 ·exact ⟨by omega,rfl,fun _ _ h=>h⟩
 clear H;rintro ⟨k,g⟩ a w hI H;dsimp only at hI H;obtain ⟨hk,hno,hgm⟩:=hI;dsimp only [lca,bG] at H;refine dQ 4 H ?_ ?_ <;> clear H
 ·intro p9
  have hk2:k < l.length:=by omega
  obtain ⟨b,o,rfl,hrow⟩:=KG (f:=fun q=>q) hv hk2
  replace hrow:aI g b (o+k*1)=some (vi l[k]):=by rw [Nat.mul_one];exact aH hgm hrow
  refine ak 13 ?_;intro a H;refine ji H wn rfl rfl (hf _ _ hgm H.ro l[k]) rfl ?_;clear H;rintro v16 nV a w rfl jv H;refine iU 1 H ?_ ?_ <;> clear H
  ·intro h16
   try have p16:=dT h16
   refine aQ 4 ?_
   first
    | exact (by rw [rW hk2 hno h16];rfl)
    | exact (by rw [show l.take k=l from fK (by omega)] at hno;rw [hno];rfl)
  intro h16
  try have p16:=dF h16
  refine ak 4 ?_;intro a H;refine aC ?_;refine cB ((k+1,nV)) sB ?_ ?_
  ·(try dsimp only);exact ⟨by omega,Cc hk2 hno h16,fun b o h=>jv b o (hgm b o h)⟩
  first|omega|(dsimp only;omega)
 intro p9
 refine aQ 4 ?_
 first
  | exact (by rw [rW hk2 hno h16];rfl)
  | exact (by rw [show l.take k=l from fK (by omega)] at hno;rw [hno];rfl)
theorem afL (G:GH) (w0:World) (hG:Hold G w0) (l:List Int) (p:Int→Bool) (v fv:aj) (hv:au G (.sl 1 (l.map fun k=>[li k])) v) (hf:yL fv G p) (hl:l.length≤4294967296) :
  Calls prog 74 #[v,fv] w0 (bB w0 G fun u G'=>u=.bool (l.findIdx? p).isSome):=by
 refine eN [(0,_),(1,_)] func74 rfl ntmps74 rfl rfl hG ?_;refine ak 6 ?_;intro a H;refine s_call agK H wn rfl (anx _ _ H.ro l p _ _ hv hf hl) rfl ?_;clear H;rintro v7 G7 a w rfl wS H;refine fH 3 H ?_;cases h:l.findIdx? p <;> simp [mJ]
theorem aeF {G:GH} {b:Nat} {R:List Int} {vr:aj} (hr:aI G b 1=some vr) (mI:au G (.sl 1 (R.map fun k=>[li k])) vr) (hlr:R.length≤4294967296) :
  yL (.func (.func 75) #[] #[(aG b 0)]) G (lsB R):=by
 intro G1 w0 hm hG r;refine iN (caps:=[(aG b 0)]) aiN ?_;replace hr:=aH hm hr;replace mI:=mI.mono hm;refine eN [(0,_),(1,_)] func75 rfl ntmps75 rfl rfl hG ?_;refine ak 7 ?_;intro a H;refine s_call Ru H wn rfl (UC _ _ H.ro R r _ mI hlr) rfl ?_;clear H;rintro v7 G7 a w rfl wS H;refine fH 2 H ?_;exact rfl
def pR (l:List Int) (i:Nat):Int:=match l[i]? with
 | some n=>if n < 1∨1073741824 < n then 22 else if 0 < i∧n=l.getD (i - 1) 0 then 7 else if 0 < i∧n < l.getD (i - 1) 0 then 6 else 0
 | none=>0
def oU (A R:List Int):Int:=cO [iH (pR A) A.length,iH (pR R) R.length,dx (A.findIdx? (lsB R)).isSome 23]
theorem yU {l:List Int} {k:Nat} (h:k < l.length):pR l k=if l[k] < 1∨1073741824 < l[k] then 22 else if 0 < k∧l[k]=l.getD (k - 1) 0 then 7 else if 0 < k∧l[k] < l.getD (k - 1) 0 then 6 else 0:=by
 unfold pR;rw [eO h]
theorem Em {A R l:List Int} {o k:Nat} {e:Int} (hx:(o=0∧l=A)∨(o=1∧l=R)) (hA:0 < o→iH (pR A) A.length=0) (hk:k < l.length) (he:cO (((List.range l.length).map (pR l)).drop k)=iH (pR l) l.length) (h:pR l k=e) (hn:e≠0):vi e=vi (oU A R):=by
 rw [Bt hk,av (by rw [h];exact hn),h] at he
 rcases hx with ⟨-,rfl⟩|⟨rfl,rfl⟩
 ·unfold oU;rw [← he,cO,av hn]
 unfold oU;rw [hA (by decide),← he,cO,ah (by decide),cO,av hn]
theorem MK {l:List Int} {k:Nat} (hk:k < l.length) (he:cO (((List.range l.length).map (pR l)).drop k)=iH (pR l) l.length) (h:pR l k=0):cO (((List.range l.length).map (pR l)).drop (k+1))=iH (pR l) l.length:=by
 rw [← he,Bt hk,ah (by rw [h];decide)]
theorem Xm {l:List Int} {k:Nat} (hk:l.length≤k) (he:cO (((List.range l.length).map (pR l)).drop k)=iH (pR l) l.length):iH (pR l) l.length=0:=by
 rw [← he,kC (by simpa using hk)];rfl
theorem Xo (G:GH) (w0:World) (hG:Hold G w0) (A R:List Int) (va vr:aj) (hva:au G (.sl 1 (A.map fun k=>[li k])) va) (mI:au G (.sl 1 (R.map fun k=>[li k])) vr) (hla:A.length≤4294967296) (hlr:R.length≤4294967296) :
  Calls prog 23 #[.agg #[va,vr]] w0 (bB w0 G fun u G'=>u=vi (oU A R)):=by
 obtain ⟨aA,ac,rfl,ha1,ha2,-⟩:=hva.slice;obtain ⟨rA,rc,rfl,hr1,hr2,-⟩:=mI.slice
 simp only [bM] at *
 refine eN [(0,_)] func23 rfl ntmps23 rfl rfl hG ?_;intro a H;refine vJ (fun _ K1=>?_);refine Bw ?_;refine dP (cs:=[_,_]) H wn rfl rfl rfl ?_;clear H;intro b1 a w hb1 H;refine kH H (gu K1 rfl (SQ fun _ K2=>SQ fun _ K3=>?_));clear H K1;intro a H;obtain ⟨Ga,hma,hb',H⟩:=H.dZ;have hga:=fun j v hj=>kL hb' 0 [.slice aA A.length ac,.slice rA R.length rc] rfl j v hj;replace hva:=hva.mono hma;replace mI:=mI.mono hma;refine kP H (SC (Rf RL rfl (Rg Bb rfl (aH (by first|assumption|exact fun _ _ h=>h) (hga 0 _ rfl)) ?_)));clear H;intro a H;refine kH H (Rf YB rfl (Rg Bb rfl (hga 1 _ rfl) ?_));clear H;intro a H;refine gJ Pw Bb [_,_] [_,_] H wn rfl rfl rfl rfl rfl (by intro i q h;match i,h with|0,h=>exact h|1,h=>exact h|n+2,h=>simp at h) rfl rfl ?_;clear H;intro b11 a w EA H;obtain ⟨Gb,hmb,Aq,H⟩:=H.dZ;have hgb:=fun j v hj=>kL Aq 0 [.slice aA A.length ac,.slice rA R.length rc] rfl j v hj;replace hva:=hva.mono hmb;replace mI:=mI.mono hmb;refine kH H (Rl Pw rfl (Rm rfl (Kn K3 (SB ?_))));clear H K3;intro a H;skip;refine eH (ι:=Nat) (Tc:=[(1,_),(11,_),(12,_)]) (Lc:=[]) (fun gh=>[(13,vi gh)]) (fun gh=>[]) (fun gh=>Gb) (fun gh=>gh≤2∧(0 < gh→iH (pR A) A.length=0)∧(1 < gh→iH (pR R) R.length=0)) (fun gh=>2 - gh) (0) (by exact (H).sub ⟨rfl,rfl,rfl,rfl,aU⟩) ?_ ?_
 ·exact ⟨by omega,fun h=>absurd h (by decide),fun h=>absurd h (by decide)⟩
 clear H;intro o a w hI H;obtain ⟨ho,uP,EP⟩:=hI;dsimp only [lca,bG] at H;refine kP H (SQ fun _ K4=>SC (Rc rfl (Kn K4 (SQ fun _ K5=>Cd rfl ?_ ?_)))) <;> clear H K4
 ·intro kD a H
  try have jP:=dT kD
  have ho2:o < 2:=by omega
  obtain ⟨l,lA,lc,hx,hgl,hvl,hll,hl2⟩:∃ (l:List Int) (lA:Option Addr) (lc:Nat),((o=0∧l=A)∨(o=1∧l=R))∧aI Gb b11 (0+o*1)=some (.slice lA l.length lc)∧au Gb (.sl 1 (l.map fun k=>[li k])) (.slice lA l.length lc)∧l.length≤lc∧l.length≤4294967296:=by
   match o,ho2 with
   | 0,_=>exact ⟨A,aA,ac,.inl ⟨rfl,rfl⟩,hgb 0 _ rfl,hva,by omega,hla⟩
   | 1,_=>exact ⟨R,rA,rc,.inr ⟨rfl,rfl⟩,hgb 1 _ rfl,mI,by omega,hlr⟩
  refine kP H (Kc K5 (SQ fun _ K6=>SB (SQ fun _ K7=>SC (Ri Pw Bb rfl rfl (Rg Bb rfl hgl (gu K7 rfl (SQ fun _ K8=>SC (Rm rfl (Rl vk rfl (Rm rfl (Kn K8 (SB ?_))))))))))));clear H K5 K7 K8;intro a H;skip;refine eH (ι:=Nat) (Tc:=[(1,_),(4,_),(11,_),(12,_),(13,_),(17,_),(18,_)]) (Lc:=[]) (fun gh=>[(19,vi gh)]) (fun gh=>[]) (fun gh=>Gb) (fun gh=>gh≤l.length∧cO (((List.range l.length).map (pR l)).drop gh)=iH (pR l) l.length) (fun gh=>l.length - gh) (0) (by exact (H).sub ⟨rfl,rfl,rfl,rfl,rfl,rfl,rfl,rfl,aU⟩) ?_ ?_
  ·exact ⟨by omega,rfl⟩
  clear H;intro k a w hI H;obtain ⟨hk,he⟩:=hI;dsimp only [lca,bG] at H;refine kP H (SQ fun _ K9=>SC (Rc rfl (Kn K9 (SQ fun _ vB=>Cd rfl ?_ ?_)))) <;> clear H K9
  ·intro h20 a H
   try have Ck:=dT h20
   have hk2:k < l.length:=by omega
   obtain ⟨bl,ol,rfl,hrow⟩:=KG (f:=fun q=>q) hvl hk2
   replace hrow:aI Gb bl (ol+k*1)=some (vi l[k]):=by rw [Nat.mul_one];exact hrow
   have mH:aI Gb bl (ol+(k - 1)*1)=some (vi (l.getD (k - 1) 0)):=by
    obtain ⟨b',o',e,hr'⟩:=KG (f:=fun q=>q) hvl (show k - 1 < l.length by omega)
    injection e with e
    injection e with e1 e2
    subst e1;subst e2;rw [Nat.mul_one,hr',List.getD_eq_getElem?_getD,eO];rfl
   refine kP H (Kc vB (SQ fun _ nJ=>SB (SQ fun _ uh=>SC (Rm rfl (Ri vk bR rfl rfl (Rg bR rfl hrow (Ra rfl (gu uh rfl (SB (SQ fun _ zW=>SC (Rm rfl (Rc rfl (Rm rfl (Sp 27 rfl ?_ ?_)))))))))))))) <;> clear H vB uh
   ·intro h27 a H
    try have p27:=dT h27
    refine kH H (nK h27 rfl (Pt h27 rfl (gu zW rfl (Ct rfl rfl (SQ fun _ I7=>SC (gu I7 rfl ?_))))));clear H zW I7;intro a H;refine lr H results23 rfl ?_
    first
     | exact H.rt (Em hx uP hk2 he (by rw [yU hk2];(repeat' split) <;> first|rfl|(exfalso;simp_all;done)|(exfalso;simp_all;omega)) (by decide))
     | exact H.rt (by unfold oU;rw [uP (by omega),EP (by omega),cO,ah (by decide),cO,ah (by decide),jX];rfl)
   intro h27 a H
   try have p27:=dF h27
   refine kH H (YM h27 rfl (YC h27 rfl (Pf h27 rfl (gu zW rfl (Cd rfl ?_ ?_))))) <;> clear H zW
   ·intro fu a H
    try have jq:=dT fu
    refine kP H (SQ fun _ Ws=>SC (gu Ws rfl ?_));clear H Ws;intro a H;refine lr H results23 rfl ?_
    first
     | exact H.rt (Em hx uP hk2 he (by rw [yU hk2];(repeat' split) <;> first|rfl|(exfalso;simp_all;done)|(exfalso;simp_all;omega)) (by decide))
     | exact H.rt (by unfold oU;rw [uP (by omega),EP (by omega),cO,ah (by decide),cO,ah (by decide),jX];rfl)
   intro fu a H
   try have jq:=dF fu
   refine kP H (SQ fun _ Mg=>SC (Rm rfl (Rc rfl (Rm rfl (Sp 34 rfl ?_ ?_))))) <;> clear H
   ·intro kY a H
    try have p34:=dT kY
    refine kH H (YM kY rfl (YM kY rfl (YM kY rfl ?_)));clear H;intro a H;refine lK _ H (wg H rfl rfl kY) rfl rfl rfl (by omega) (by omega) rfl ?_;clear H;intro a H;rw [show ((k:Int) - 1)=((k - 1:Nat):Int) by omega] at H;refine kH H (YI vk bR kY rfl rfl (YR bR kY rfl mH (YC kY rfl (Pt kY rfl (gu Mg rfl (Cd rfl ?_ ?_)))))) <;> clear H Mg
    ·intro h31 a H
     try have p31:=dT h31
     refine kP H (SQ fun _ Wt=>SC (gu Wt rfl ?_));clear H Wt;intro a H;refine lr H results23 rfl ?_
     first
      | exact H.rt (Em hx uP hk2 he (by rw [yU hk2];(repeat' split) <;> first|rfl|(exfalso;simp_all;done)|(exfalso;simp_all;omega)) (by decide))
      | exact H.rt (by unfold oU;rw [uP (by omega),EP (by omega),cO,ah (by decide),cO,ah (by decide),jX];rfl)
    intro h31 a H
    try have p31:=dF h31
    refine kP H (SQ fun _ Mh=>SC (Rm rfl (Rc rfl (Rm rfl (Sp 46 rfl ?_ ?_))))) <;> clear H
    ·intro h46 a H
     try have p46:=dT h46
     refine kH H (YM h46 rfl (YM h46 rfl (YM h46 rfl ?_)));clear H;intro a H;refine lK _ H (wg H rfl rfl h46) rfl rfl rfl (by omega) (by omega) rfl ?_;clear H;intro a H;rw [show ((k:Int) - 1)=((k - 1:Nat):Int) by omega] at H;refine kH H (YI vk bR h46 rfl rfl (YR bR h46 rfl mH (YC h46 rfl (Pt h46 rfl (gu Mh rfl (Cd rfl ?_ ?_)))))) <;> clear H Mh
     ·intro h43 a H
      try have p43:=dT h43
      refine kP H (SQ fun _ Wu=>SC (gu Wu rfl ?_));clear H Wu;intro a H;refine lr H results23 rfl ?_
      first
       | exact H.rt (Em hx uP hk2 he (by rw [yU hk2];(repeat' split) <;> first|rfl|(exfalso;simp_all;done)|(exfalso;simp_all;omega)) (by decide))
       | exact H.rt (by unfold oU;rw [uP (by omega),EP (by omega),cO,ah (by decide),cO,ah (by decide),jX];rfl)
     intro h43 a H
     try have p43:=dF h43
     refine kP H (Kc nJ (SC (Rd rfl (Rm rfl ?_))));clear H nJ;intro a H;refine aC ?_;refine cB (k+1) (by exact (H).sub ⟨rfl,rfl,rfl,rfl,rfl,rfl,rfl,rfl,aU⟩) ?_ ?_
     ·exact ⟨by omega,MK hk2 he (by rw [yU hk2];(repeat' split) <;> first|rfl|(exfalso;simp_all;done)|(exfalso;simp_all;omega))⟩
     first|omega|(dsimp only;omega)
    intro h46 a H
    try have p46:=dF h46
    refine kH H (jR h46 rfl (nK h46 rfl (nK h46 rfl (Pf h46 rfl (gu Mh rfl (Cf rfl rfl (Kc nJ (SC (Rd rfl (Rm rfl ?_))))))))));clear H Mh nJ;intro a H;refine aC ?_;refine cB (k+1) (by exact (H).sub ⟨rfl,rfl,rfl,rfl,rfl,rfl,rfl,rfl,aU⟩) ?_ ?_
    ·exact ⟨by omega,MK hk2 he (by rw [yU hk2];(repeat' split) <;> first|rfl|(exfalso;simp_all;done)|(exfalso;simp_all;omega))⟩
    first|omega|(dsimp only;omega)
   intro kY a H
   try have p34:=dF kY
   refine kH H (jR kY rfl (nK kY rfl (nK kY rfl (Pf kY rfl (gu Mg rfl (Cf rfl rfl (SQ fun _ Mi=>SC (Rm rfl (Rc rfl (Rm rfl (Sp 46 rfl ?_ ?_))))))))))) <;> clear H Mg
   ·intro h46 a H
    try have p46:=dT h46
    refine kH H (YM h46 rfl (YM h46 rfl (YM h46 rfl ?_)));clear H;intro a H;refine lK _ H (wg H rfl rfl h46) rfl rfl rfl (by omega) (by omega) rfl ?_;clear H;intro a H;rw [show ((k:Int) - 1)=((k - 1:Nat):Int) by omega] at H;refine kH H (YI vk bR h46 rfl rfl (YR bR h46 rfl mH (YC h46 rfl (Pt h46 rfl (gu Mi rfl (Cd rfl ?_ ?_)))))) <;> clear H Mi
    ·intro h43 a H
     try have p43:=dT h43
     refine kP H (SQ fun _ Wv=>SC (gu Wv rfl ?_));clear H Wv;intro a H;refine lr H results23 rfl ?_
     first
      | exact H.rt (Em hx uP hk2 he (by rw [yU hk2];(repeat' split) <;> first|rfl|(exfalso;simp_all;done)|(exfalso;simp_all;omega)) (by decide))
      | exact H.rt (by unfold oU;rw [uP (by omega),EP (by omega),cO,ah (by decide),cO,ah (by decide),jX];rfl)
    intro h43 a H
    try have p43:=dF h43
    refine kP H (Kc nJ (SC (Rd rfl (Rm rfl ?_))));clear H nJ;intro a H;refine aC ?_;refine cB (k+1) (by exact (H).sub ⟨rfl,rfl,rfl,rfl,rfl,rfl,rfl,rfl,aU⟩) ?_ ?_
    ·exact ⟨by omega,MK hk2 he (by rw [yU hk2];(repeat' split) <;> first|rfl|(exfalso;simp_all;done)|(exfalso;simp_all;omega))⟩
    first|omega|(dsimp only;omega)
   intro h46 a H
   try have p46:=dF h46
   refine kH H (jR h46 rfl (nK h46 rfl (nK h46 rfl (Pf h46 rfl (gu Mi rfl (Cf rfl rfl (Kc nJ (SC (Rd rfl (Rm rfl ?_))))))))));clear H Mi nJ;intro a H;refine aC ?_;refine cB (k+1) (by exact (H).sub ⟨rfl,rfl,rfl,rfl,rfl,rfl,rfl,rfl,aU⟩) ?_ ?_
   ·exact ⟨by omega,MK hk2 he (by rw [yU hk2];(repeat' split) <;> first|rfl|(exfalso;simp_all;done)|(exfalso;simp_all;omega))⟩
   first|omega|(dsimp only;omega)
  intro h20 a H
  try have Ck:=dF h20
  refine yS ?_;refine K6 _ _ ?_;clear K6;refine kP H (SC (Rd rfl (Rm rfl ?_)));clear H;intro a H;refine aC ?_;refine cB (o+1) (by exact (H).sub ⟨rfl,rfl,rfl,rfl,aU⟩) ?_ ?_
  ·exact ⟨by omega,fun _=>by rcases hx with ⟨rfl,rfl⟩|⟨rfl,rfl⟩;exact Xm (by omega) he;exact uP (by decide),fun _=>by rcases hx with ⟨rfl,rfl⟩|⟨rfl,rfl⟩;omega;exact Xm (by omega) he⟩
  first|omega|(dsimp only;omega)
 intro kD a H
 try have jP:=dF kD
 refine yS ?_;refine K2 _ _ ?_;clear K2;refine kP H (SQ fun _ Ww=>SQ fun _ Wx=>SC (Rf RL rfl (Rg Bb rfl (aH (by first|assumption|exact fun _ _ h=>h) (hga 0 _ rfl)) ?_)));clear H;intro a H;refine nS H wn rfl rfl ?_;clear H;intro a H;refine s_call aiM H wn rfl (afL _ _ H.ro A _ _ _ hva (aeF (aH hmb (hga 1 _ rfl)) mI hlr) hla) rfl ?_;clear H;rintro v60 G60 a w rfl atW H;refine kH H (Kn Wx (Cd rfl ?_ ?_)) <;> clear H Wx
 ·intro jX a H
  try have p60:=dT jX
  refine kP H (SQ fun _ Wy=>SC (gu Wy rfl ?_));clear H Wy;intro a H;refine lr H results23 rfl ?_
  first
   | exact H.rt (Em hx uP hk2 he (by rw [yU hk2];(repeat' split) <;> first|rfl|(exfalso;simp_all;done)|(exfalso;simp_all;omega)) (by decide))
   | exact H.rt (by unfold oU;rw [uP (by omega),EP (by omega),cO,ah (by decide),cO,ah (by decide),jX];rfl)
 intro jX a H
 try have p60:=dF jX
 refine kP H (Kc Ww (SQ fun _ Wz=>SC (gu Wz rfl ?_)));clear H Ww Wz;intro a H;refine lr H results23 rfl ?_
 first
  | exact H.rt (Em hx uP hk2 he (by rw [yU hk2];(repeat' split) <;> first|rfl|(exfalso;simp_all;done)|(exfalso;simp_all;omega)) (by decide))
  | exact H.rt (by unfold oU;rw [uP (by omega),EP (by omega),cO,ah (by decide),cO,ah (by decide),jX];rfl)
end
section
open Go.RowKit
theorem QZ:∀ args w,(callFunc 17 args).run prog w=.ok (.enter 17 args) w:=enters func17 rfl (by kernel_rfl)
theorem Rj:∀ args w,(callFunc 47 args).run prog w=.ok (.enter 47 args) w:=enters func47 rfl (by kernel_rfl)
instance sI:Ty prog 43 2 48 [.slice none 0 0,.slice none 0 0] true:=⟨by kernel_rfl,by kernel_rfl⟩
theorem Ju:∀ args w,(callFunc 65 args).run prog w=.ok (.enter 65 args) w:=enters func65 rfl (by kernel_rfl)
theorem Ye:∀ args w,(callFunc 23 args).run prog w=.ok (.enter 23 args) w:=enters func23 rfl (by kernel_rfl)
theorem La:oO prog 43 [(0,1),(1,1)] [.slice none 0 0,.slice none 0 0]:=⟨by kernel_rfl,by kernel_rfl⟩
theorem Yd:∀ args w,(callFunc 22 args).run prog w=.ok (.enter 22 args) w:=enters func22 rfl (by kernel_rfl)
theorem aiL:∀ args w,(callFunc 73 args).run prog w=.ok (.enter 73 args) w:=enters func73 rfl (by kernel_rfl)
theorem VI {acc rej:Int→Bool} (G:GH) (w0:World) (hG:Hold G w0) (fv:aj) (hf:Bp fv G acc rej) (D:gy) (d:gG) (hR:iG G D d) (hs:ug 536870912 d) (hc:iO d=0) :
  Calls prog 47 #[fv,D.val] w0 (bB w0 G fun u G'=>∃ D':gy,u=D'.val∧iG G' D' (nD (kN acc rej d))):=by
 obtain ⟨df,dp,dd,dy,dr,d1,d2,d3,d4,ins,mv⟩:=D;have hok:=abO (acc:=acc) (rej:=rej) hc;have hfl:=hs.fl;have hhd:=hs.hd;have hz2:xE (kN acc rej d):=(Iw hs (by decide) (by decide)).z;obtain ⟨p1,p2,p3,p4⟩:=aaV hz2 hok;obtain ⟨SF,SG,JQ,JR,hRr,hRs⟩:=hR;dsimp only at JQ JR;subst JQ JR;refine eN [(0,_),(1,_)] func47 rfl ntmps47 rfl rfl hG ?_;refine ak 1 ?_;intro a H;refine dP (cs:=[_,_,_,_,_,_,_,_,_,_,_]) H wn rfl rfl rfl ?_;clear H;intro b3 a w hb3 H;refine dz fI H wn rfl ?_;clear H;intro b4 a w hb4 H;refine aD 5 H ?_;clear H;intro a H;refine s_call RA H wn rfl (abP 536870913 (bP _) _ _ H.ro hf d.flow _ SF (by omega)) rfl ?_;clear H;rintro v8 G8 a w KC mG H;obtain ⟨fA,fn,fc,rfl⟩:=KC.form;refine aD 1 H ?_;clear H;intro a H;refine aV pK 1 (vs:=[_]) _ H wn rfl rfl rfl rfl rfl rfl rfl rfl ?_;clear H;intro w H;dsimp only [List.set,setRow] at H;refine aD 4 H ?_;clear H;intro a H;refine aS dw (cs:=[_,_,_,_,_]) H wn rfl rfl (H.hp.bN 1 rfl rfl) rfl ?_;clear H;intro a H;refine ji H wn rfl rfl (hf _ _ mG H.ro d.fin _ _ _ (SG.mono mG) (by omega)) rfl ?_;clear H;rintro v14 zU a w Te wR H;obtain ⟨q1,q2,q3,q4,q5,q6,q7,q8,q9,rfl,Tj⟩:=Te.ans;refine aD 1 H ?_;clear H;intro a H;(iterate 2 refine jK H wn rfl rfl rfl ?_;clear H;intro a H);refine aD 1 H ?_;clear H;intro a H;refine aV dw 1 (vs:=[_,_,_,_,_]) _ H wn rfl rfl rfl rfl rfl rfl rfl rfl ?_;clear H;intro w H;dsimp only [List.set,setRow] at H;refine aD 2 H ?_;clear H;intro a H;refine aS fI (cs:=(⟨(fA,fn,fc),(q1,q2,q3),(q4,q5,q6),(q7,q8,q9),dr,d1,d2,d3,d4,(aY acc rej d.fin).marks.ins,(aY acc rej d.fin).marks.move⟩:gy).cells) H wn rfl rfl (H.hp.bN 1 rfl rfl) rfl ?_;clear H;intro a H;refine s_call QZ H wn rfl (QO _ _ H.ro ⟨(fA,fn,fc),(q1,q2,q3),(q4,q5,q6),(q7,q8,q9),dr,d1,d2,d3,d4,(aY acc rej d.fin).marks.ins,(aY acc rej d.fin).marks.move⟩ (kN acc rej d) ⟨KC.mono wR,Tj,rfl,rfl,hRr.mono (fun b o h=>wR b o (mG b o h)),hRs.mono fun b o h=>wR b o (mG b o h)⟩ hz2 p1 p2 p3 p4) rfl ?_;clear H;rintro v19 FX a w ⟨E,rfl,hE⟩ qF H;refine aV fI 0 (vs:=[_,_,_,_,_,_,_,_,_,_,_]) _ H wn rfl rfl rfl rfl rfl rfl rfl rfl ?_;clear H;intro w H;dsimp only [List.set,setRow] at H;refine aC ?_;refine dR ?_;refine bZ ?_;refine (leave1 H results47 (.cons (kF fI (cs:=[_,_,_,_,_,_,_,_,_,_,_]) H rfl rfl (H.hp.bN 0 rfl rfl)) .nil) ?_).1;exact H.rt ⟨E,rfl,hE⟩
theorem apP (G:GH) (w0:World) (hG:Hold G w0) (D:gy) (d:gG) (hR:iG G D d) (hs:ug 536870912 d) (hc:iO d=0) :
  Calls prog 14 #[D.val] w0 (bB w0 G fun u G'=>∃ D':gy,u=D'.val∧iG G' D' (nD (kN (fun _=>false) (fun _=>true) d))):=by
 refine eN [(0,_)] func14 rfl ntmps14 rfl rfl hG ?_;refine ak 1 ?_;intro a H;refine dP (cs:=[_,_,_,_,_,_,_,_,_,_,_]) H wn rfl rfl rfl ?_;clear H;intro b1 a w hb1 H;refine dz fI H wn rfl ?_;clear H;intro b2 a w hb2 H;refine aD 2 H ?_;clear H;intro a H;refine aS fI (cs:=[_,_,_,_,_,_,_,_,_,_,_]) H wn rfl rfl (H.hp.bN 1 rfl rfl) rfl ?_;clear H;intro a H;refine s_call Rj H wn rfl (VI _ _ H.ro _ (aqj _) D d hR hs hc) rfl ?_;clear H;rintro v4 G4 a w ⟨E,rfl,hE⟩ Av H;refine aV fI 0 (vs:=[_,_,_,_,_,_,_,_,_,_,_]) _ H wn rfl rfl rfl rfl rfl rfl rfl rfl ?_;clear H;intro w H;dsimp only [List.set,setRow] at H;refine aC ?_;refine dR ?_;refine bZ ?_;refine (leave1 H results14 (.cons (kF fI (cs:=[_,_,_,_,_,_,_,_,_,_,_]) H rfl rfl (H.hp.bN 0 rfl rfl)) .nil) ?_).1;exact H.rt ⟨E,rfl,hE⟩
theorem apO (G:GH) (w0:World) (hG:Hold G w0) (D:gy) (d:gG) (hR:iG G D d) (hs:ug 536870912 d) (hc:iO d=0) :
  Calls prog 15 #[D.val] w0 (bB w0 G fun u G'=>∃ D':gy,u=D'.val∧iG G' D' (nD (kN (fun _=>true) (fun _=>false) d))):=by
 refine eN [(0,_)] func15 rfl ntmps15 rfl rfl hG ?_;refine ak 1 ?_;intro a H;refine dP (cs:=[_,_,_,_,_,_,_,_,_,_,_]) H wn rfl rfl rfl ?_;clear H;intro b1 a w hb1 H;refine dz fI H wn rfl ?_;clear H;intro b2 a w hb2 H;refine aD 2 H ?_;clear H;intro a H;refine aS fI (cs:=[_,_,_,_,_,_,_,_,_,_,_]) H wn rfl rfl (H.hp.bN 1 rfl rfl) rfl ?_;clear H;intro a H;refine s_call Rj H wn rfl (VI _ _ H.ro _ (aqi _) D d hR hs hc) rfl ?_;clear H;rintro v4 G4 a w ⟨E,rfl,hE⟩ Av H;refine aV fI 0 (vs:=[_,_,_,_,_,_,_,_,_,_,_]) _ H wn rfl rfl rfl rfl rfl rfl rfl rfl ?_;clear H;intro w H;dsimp only [List.set,setRow] at H;refine aC ?_;refine dR ?_;refine bZ ?_;refine (leave1 H results15 (.cons (kF fI (cs:=[_,_,_,_,_,_,_,_,_,_,_]) H rfl rfl (H.hp.bN 0 rfl rfl)) .nil) ?_).1;exact H.rt ⟨E,rfl,hE⟩
theorem apB {G:GH} {b:Nat} {A R:List Int} {aA rA:Option Addr} {an ac rn rc:Nat} (hb:G b=some (.cells #[.slice aA an ac,.slice rA rn rc] 43 (0,0))) (hva:au G (.sl 1 (A.map fun k=>[li k])) (.slice aA an ac)) (mI:au G (.sl 1 (R.map fun k=>[li k])) (.slice rA rn rc)) (hla:A.length≤4294967296) (hlr:R.length≤4294967296) :
  Bp (.func (.func 73) #[] #[(aG b 0)]) G (lsB A) (lsB R):=by
 intro G1 w0 hm hG h p d l hh hz;refine iN (caps:=[(aG b 0)]) aiL ?_;have hga:=fun j v hj=>aH hm (kL hb 0 [.slice aA an ac,.slice rA rn rc] rfl j v hj);replace hva:=hva.mono hm;replace mI:=mI.mono hm;obtain ⟨pA,pn,pc,rfl⟩:=hh.props.form;obtain ⟨dA,dn,dc,rfl⟩:=hh.bL.form;obtain ⟨lA,ln,lc,rfl⟩:=hh.layers.form;refine eN [(0,_),(1,_)] func73 rfl ntmps73 rfl rfl hG ?_;refine ak 1 ?_;intro a H;refine dP (cs:=[_,_,_,_,_]) H wn rfl rfl rfl ?_;clear H;intro b2 a w hb2 H;refine dz dw H wn rfl ?_;clear H;intro b3 a w hb3 H;refine aD 3 H ?_;clear H;intro a H;refine aS dw (cs:=[_,_,_,_,_]) H wn rfl rfl (H.hp.bN 1 rfl rfl) rfl ?_;clear H;intro a H;refine aS sI (cs:=[.slice aA an ac,.slice rA rn rc]) H wn rfl rfl (fun j v hj=>H.hp.aI (hga j v hj)) rfl ?_;clear H;intro a H;refine s_call Ju H wn rfl (KL _ _ H.ro A R aA rA an ac rn rc hva mI hla hlr h _ _ _ hh hz) rfl ?_;clear H;rintro v7 G7 a w hd7 wS H;obtain ⟨q1,q2,q3,q4,q5,q6,q7,q8,q9,rfl,zo⟩:=hd7.ans;(iterate 2 refine jK H wn rfl rfl rfl ?_;clear H;intro a H);refine aV dw 0 (vs:=[_,_,_,_,_]) _ H wn rfl rfl rfl rfl rfl rfl rfl rfl ?_;clear H;intro w H;dsimp only [List.set,setRow] at H;refine aD 2 H ?_;clear H;intro a H;refine bZ ?_;refine (eT H results73 (.cons (kF dw (cs:=[_,_,_,_,_]) H rfl rfl (H.hp.bN 0 rfl rfl)) (.cons (bq H rfl) .nil)) ?_).1;exact H.rt (nk.Ot zo)
def PL:gG:=⟨[],zQ,[],⟨[],[],[],[]⟩⟩
def yh (A R:List Int) (d:gG):gG:=if oU A R=0 then nD (kN (lsB A) (lsB R) d) else PL
theorem abH (G:GH) (w0:World) (hG:Hold G w0) (D:gy) (d:gG) (hR:iG G D d) (hs:ug 536870912 d) (hc:iO d=0) (A R:List Int) (va vr:aj) (hva:au G (.sl 1 (A.map fun k=>[li k])) va) (mI:au G (.sl 1 (R.map fun k=>[li k])) vr) (hla:A.length≤4294967296) (hlr:R.length≤4294967296) :
  Calls prog 22 #[D.val,.agg #[va,vr]] w0 (bB w0 G fun u G'=>∃ D':gy,u=.tuple #[D'.val,vi (oU A R)]∧iG G' D' (yh A R d)):=by
 obtain ⟨aA,an,ac,rfl⟩:=hva.form;obtain ⟨rA,rn,rc,rfl⟩:=mI.form;refine eN [(0,_),(1,_)] func22 rfl ntmps22 rfl rfl hG ?_;refine ak 1 ?_;intro a H;refine dP (cs:=[_,_,_,_,_,_,_,_,_,_,_]) H wn rfl rfl rfl ?_;clear H;intro b2 a w hb2 H;refine dP (cs:=[_,_]) H wn rfl rfl rfl ?_;clear H;intro b3 a w hb3 H;refine dz fI H wn rfl ?_;clear H;intro b4 a w hb4 H;refine aD 3 H ?_;clear H;intro a H;have H:=H.dY (Pl:=[_,_,_]) (dM:=[_,_,_]) [1,0,2] (by decide) rfl;obtain ⟨Ga,hma,hb',H⟩:=H.dZ;have hga:=fun j v hj=>kL hb' 0 [.slice aA an ac,.slice rA rn rc] rfl j v hj;replace hva:=hva.mono hma;replace mI:=mI.mono hma;replace hR:=hR.mono hma;refine Am ?_;refine aS sI (cs:=[.slice aA an ac,.slice rA rn rc]) H wn rfl rfl (fun j v hj=>H.hp.aI (hga j v hj)) rfl ?_;clear H;intro a H;refine s_call Ye H wn rfl (Xo _ _ H.ro A R _ _ hva mI hla hlr) rfl ?_;clear H;rintro v8 G8 a w rfl mG H;refine gQ 6 H ?_ ?_ <;> clear H
 ·intro iD
  refine ak 1 ?_;intro a H;refine iy KZ [_,_,_,_,_,_,_,_,_,_,_] H wn rfl rfl rfl rfl ?_;clear H;refine ak 1 ?_;intro a H;refine aV fI 0 (vs:=[_,_,_,_,_,_,_,_,_,_,_]) _ H wn rfl rfl rfl rfl rfl rfl rfl rfl ?_;clear H;intro w H;dsimp only [List.set,setRow] at H;refine aD 2 H ?_;clear H;intro a H;refine bZ ?_;refine (eT H results22 (.cons (kF fI (cs:=[_,_,_,_,_,_,_,_,_,_,_]) H rfl rfl (H.hp.bN 0 rfl rfl)) (.cons (bq H rfl) .nil)) ?_).1
  first
   | exact H.rt ⟨E,by rw [show oU A R=0 from by simp_all],by unfold yh;rw [av (by simp_all)];exact hE⟩
   | exact H.rt ⟨⟨(none,0,0),(none,0,0),(none,0,0),(none,0,0),(none,0,0),(none,0,0),(none,0,0),(none,0,0),(none,0,0),0,0⟩,rfl,by unfold yh;rw [ah (by simp_all)];exact ⟨au.gZ rfl (by decide),FQ _,rfl,rfl,au.gZ rfl (by decide),au.gZ rfl (by decide),au.gZ rfl (by decide),au.gZ rfl (by decide),au.gZ rfl (by decide)⟩⟩
 intro iD
 refine ak 2 ?_;intro a H;refine nS H wn rfl rfl ?_;clear H;intro a H;refine aS fI (cs:=[_,_,_,_,_,_,_,_,_,_,_]) H wn rfl rfl (H.hp.bN 1 rfl rfl) rfl ?_;clear H;intro a H;refine s_call Rj H wn rfl (VI _ _ H.ro _ (apB (mG _ _ hb') (hva.mono mG) (mI.mono mG) hla hlr) D d (hR.mono mG) hs hc) rfl ?_;clear H;rintro v15 Bn a w ⟨E,rfl,hE⟩ zq H;refine aV fI 0 (vs:=[_,_,_,_,_,_,_,_,_,_,_]) _ H wn rfl rfl rfl rfl rfl rfl rfl rfl ?_;clear H;intro w H;dsimp only [List.set,setRow] at H;refine aD 2 H ?_;clear H;intro a H;refine bZ ?_;refine (eT H results22 (.cons (kF fI (cs:=[_,_,_,_,_,_,_,_,_,_,_]) H rfl rfl (H.hp.bN 0 rfl rfl)) (.cons (bq H rfl) .nil)) ?_).1
 first
  | exact H.rt ⟨E,by rw [show oU A R=0 from by simp_all],by unfold yh;rw [av (by simp_all)];exact hE⟩
  | exact H.rt ⟨⟨(none,0,0),(none,0,0),(none,0,0),(none,0,0),(none,0,0),(none,0,0),(none,0,0),(none,0,0),(none,0,0),0,0⟩,rfl,by unfold yh;rw [ah (by simp_all)];exact ⟨au.gZ rfl (by decide),FQ _,rfl,rfl,au.gZ rfl (by decide),au.gZ rfl (by decide),au.gZ rfl (by decide),au.gZ rfl (by decide),au.gZ rfl (by decide)⟩⟩
theorem adY (G:GH) (w0:World) (hG:Hold G w0) (D:gy) (d:gG) (hR:iG G D d) (hs:ug 536870912 d) (hc:iO d=0) (A:List Int) (va:aj) (hva:au G (.sl 1 (A.map fun k=>[li k])) va) (hla:A.length≤4294967296) :
  Calls prog 24 #[D.val,va] w0 (bB w0 G fun u G'=>∃ D':gy,u=.tuple #[D'.val,vi (oU A [])]∧iG G' D' (yh A [] d)):=by
 obtain ⟨aA,an,ac,rfl⟩:=hva.form;refine eN [(0,_),(1,_)] func24 rfl ntmps24 rfl rfl hG ?_;refine ak 1 ?_;intro a H;refine dP (cs:=[_,_,_,_,_,_,_,_,_,_,_]) H wn rfl rfl rfl ?_;clear H;intro b2 a w hb2 H;refine dz fI H wn rfl ?_;clear H;intro b4 a w hb4 H;refine aD 3 H ?_;clear H;intro a H;refine aS fI (cs:=[_,_,_,_,_,_,_,_,_,_,_]) H wn rfl rfl (H.hp.bN 1 rfl rfl) rfl ?_;clear H;refine ak 1 ?_;intro a H;refine iy La [_,_] H wn rfl rfl rfl rfl ?_;clear H;intro a H;refine s_call Yd H wn rfl (abH _ _ H.ro D d hR hs hc A [] _ _ hva (au.gZ rfl (by decide)) hla (by decide)) rfl ?_;clear H;rintro v9 G9 a w ⟨E,rfl,hE⟩ wT H;(iterate 2 refine jK H wn rfl rfl rfl ?_;clear H;intro a H);refine aV fI 0 (vs:=[_,_,_,_,_,_,_,_,_,_,_]) _ H wn rfl rfl rfl rfl rfl rfl rfl rfl ?_;clear H;intro w H;dsimp only [List.set,setRow] at H;refine aD 2 H ?_;clear H;intro a H;refine bZ ?_;refine (eT H results24 (.cons (kF fI (cs:=[_,_,_,_,_,_,_,_,_,_,_]) H rfl rfl (H.hp.bN 0 rfl rfl)) (.cons (bq H rfl) .nil)) ?_).1;exact H.rt ⟨E,rfl,hE⟩
theorem apM (G:GH) (w0:World) (hG:Hold G w0) (D:gy) (d:gG) (hR:iG G D d) (hs:ug 536870912 d) (hc:iO d=0) (A:List Int) (va:aj) (hva:au G (.sl 1 (A.map fun k=>[li k])) va) (hla:A.length≤4294967296) :
  Calls prog 25 #[D.val,va] w0 (bB w0 G fun u G'=>∃ D':gy,u=.tuple #[D'.val,vi (oU [] A)]∧iG G' D' (yh [] A d)):=by
 obtain ⟨aA,an,ac,rfl⟩:=hva.form;refine eN [(0,_),(1,_)] func25 rfl ntmps25 rfl rfl hG ?_;refine ak 1 ?_;intro a H;refine dP (cs:=[_,_,_,_,_,_,_,_,_,_,_]) H wn rfl rfl rfl ?_;clear H;intro b2 a w hb2 H;refine dz fI H wn rfl ?_;clear H;intro b4 a w hb4 H;refine aD 3 H ?_;clear H;intro a H;refine aS fI (cs:=[_,_,_,_,_,_,_,_,_,_,_]) H wn rfl rfl (H.hp.bN 1 rfl rfl) rfl ?_;clear H;refine ak 1 ?_;intro a H;refine iy La [_,_] H wn rfl rfl rfl rfl ?_;clear H;intro a H;refine s_call Yd H wn rfl (abH _ _ H.ro D d hR hs hc [] A _ _ (au.gZ rfl (by decide)) hva (by decide) hla) rfl ?_;clear H;rintro v9 G9 a w ⟨E,rfl,hE⟩ wT H;(iterate 2 refine jK H wn rfl rfl rfl ?_;clear H;intro a H);refine aV fI 0 (vs:=[_,_,_,_,_,_,_,_,_,_,_]) _ H wn rfl rfl rfl rfl rfl rfl rfl rfl ?_;clear H;intro w H;dsimp only [List.set,setRow] at H;refine aD 2 H ?_;clear H;intro a H;refine bZ ?_;refine (eT H results25 (.cons (kF fI (cs:=[_,_,_,_,_,_,_,_,_,_,_]) H rfl rfl (H.hp.bN 0 rfl rfl)) (.cons (bq H rfl) .nil)) ?_).1;exact H.rt ⟨E,rfl,hE⟩
end
section
open Go.RowKit
section
variable {N:Nat} {D:List Deferred} {w0:World} {F:Nat→Prop} {G0 G G1 G2:GH} {L L1 L2:OL} {T Xs:List (Nat × aj)}
variable {r:Option Nat} {P:Program} {Q:Exit→Act→World→Prop} {l:List Oper} {a a':Act} {w w':World}
theorem aev {id:Nat} {κ:Type} (k0:κ) (hm:P.follows .mixedOrders=true) (bJ:List (List Nat)) (B:List Nat) (hk:wK l bJ=true) (hB:uY l bJ B=true) (m0 m1 m2:Nat) (NR:B.contains m2=false) (h02:(bJ.getD m2 []).contains m0=true) (h12:(bJ.getD m2 []).contains m1=true) (hne:Nat.beq m1 m2=false) (hne0:Nat.beq m0 m2=false) (hne1:Nat.beq m0 m1=false) (Fh:Obj) (Ci:κ→Obj) (pr:Nat→κ→Nat→aj→GH→Prop)
  (hp1:∀ b b' k i v G,Nat.beq i m1=false→(bJ.getD i []).contains m1=false→pr b k i v G→pr b' k i v G)
  (hp0:∀ b k k' i v G,Nat.beq i m0=false→(bJ.getD i []).contains m0=false→pr b k i v G→pr b k' i v G)
  (H:St N D w0 F G0 G L T a w)
  (hstep:allI (fun i o=>∀ b k L' S a w G1,(∀ x,x∈L→x∈L')→B.contains i=false→Nat.beq i m0=false→Nat.beq i m1=false→Nat.beq i m2=false→S i=false→(∀ j∈bJ.getD i [],S j=true)→(∀ k o,G k=some o→G1 k=some o)→St N D w0 F G0 G1 L' T a w→(∀ i d,S i=true→dX l i=some d→∃ v,a.tmps[d]?=some v∧pr b k i v G1) →
   WL r P l.toArray (fun e a' w'=>e=.normal∧DX N D w0 F G0 G L' T l (pr b k) (dh S i) a' w') [o] a w) 0 l)
  (amo:∀ o b L' S a w G1,(∀ x,x∈L→x∈L')→l[m0]?=some o→S m0=false→(∀ j∈bJ.getD m0 [],S j=true)→(∀ k o,G k=some o→G1 k=some o)→St N D w0 F G0 G1 L' T a w→(∀ k i d,i≠m0→S i=true→dX l i=some d→∃ v,a.tmps[d]?=some v∧pr b k i v G1) →
   WL r P l.toArray (fun e a' w'=>e=.normal∧∃ k,DX N D w0 F G0 G L' T l (pr b k) (dh S m0) a' w') [o] a w)
  (Ka:∀ o k S a w G1,l[m1]?=some o→S m1=false→(∀ j∈bJ.getD m1 [],S j=true)→(∀ k o,G k=some o→G1 k=some o)→St N D w0 F G0 G1 L T a w→(∀ b i d,i≠m1→S i=true→dX l i=some d→∃ v,a.tmps[d]?=some v∧pr b k i v G1) →
   WL r P l.toArray (fun e a' w'=>e=.normal∧∃ b,DX N D w0 F G0 G ((b,Fh) :: L) T l (pr b k) (dh S m1) a' w') [o] a w)
  (Ke:∀ o b k S a w G1,l[m2]?=some o→S m2=false→(∀ j∈bJ.getD m2 [],S j=true)→(∀ k o,G k=some o→G1 k=some o)→St N D w0 F G0 G1 ((b,Fh) :: L) T a w→(∀ i d,S i=true→dX l i=some d→∃ v,a.tmps[d]?=some v∧pr b k i v G1) →
   WL r P l.toArray (fun e a' w'=>e=.normal∧DX N D w0 F G0 G ((b,Ci k) :: L) T l (pr b k) (dh S m2) a' w') [o] a w)
  (hend:∀ b k a w G1,(∀ k o,G k=some o→G1 k=some o)→St N D w0 F G0 G1 ((b,Ci k) :: L) T a w→(∀ i d,B.contains i=false→dX l i=some d→∃ v,a.tmps[d]?=some v∧pr b k i v G1)→WL r P l.toArray (fun e a w=>e=.normal∧Q .normal a w) (oq l B) a w)
  (EM:Nat.blt m2 l.length=true):WP r P (.region id l.toArray true) Q a w:=by
 have hne':m1≠m2:=fun e=>by subst e;rw [Nat.beq_refl] at hne;cases hne
 have ams:m0≠m2:=fun e=>by subst e;rw [Nat.beq_refl] at hne0;cases hne0
 have Kg:m0≠m1:=fun e=>by subst e;rw [Nat.beq_refl] at hne1;cases hne1
 refine El hm bJ B hk hB (fun S a w=>(S m2=true→S m1=true∧S m0=true)∧∃ b k L',L'=(bif S m2 then (b,Ci k) :: L else bif S m1 then (b,Fh) :: L else L)∧DX N D w0 F G0 G L' T l (pr b k) S a w)
  ⟨fun h=>⟨h,h⟩,0,k0,L,rfl,G,fun _ _ h=>h,H.move H.hp.drew,fun _ _ h=>absurd (show false=true from h) (by decide)⟩ ?_ ?_
 ·rintro i o S a w ho hb aL iL hdesc ⟨Dt,b,k,L',hL,G1,hG,HS,hv⟩
  have hsub:∀ x,x∈L→x∈L':=fun x hx=>by
   rw [hL]
   cases S m2 with
   | true=>exact gH _ hx
   | false=>cases S m1 with
    | true=>exact gH _ hx
    | false=>exact hx
  have hno:∀ j,j < l.length→S j=true→(bJ.getD j []).contains i=false:=fun j hjl hj=>by
   cases hc:(bJ.getD j []).contains i with
   | false=>rfl
   | true =>
    have:=hdesc j hjl (by simpa using hc)
    rw [this] at hj;cases hj
  have hnot:i=m1∨i=m0→S m2=false:=fun h=>by
   cases hs:S m2 with
   | false=>rfl
   | true =>
    obtain ⟨g1,g0⟩:=Dt hs
    rcases h with rfl|rfl
    ·rw [g1] at aL;cases aL
    ·rw [g0] at aL;cases aL
  by_cases h1:i=m1
  ·have hs2:=hnot (.inl h1);clear hnot
   subst h1
   rw [hs2,aL] at hL
   subst hL
   have h:=Ka o k S a w G1 ho aL iL hG HS fun b' j d hj hSj hd=>by
    obtain ⟨v,hv1,hv2⟩:=hv j d hSj hd
    exact ⟨v,hv1,hp1 b b' k j v _ (nX hj) (hno j (qB hd) hSj) hv2⟩
   refine lC (fun e a' w' ⟨he,b',hD⟩=>⟨he,fun hx=>?_,b',k,_,?_,hD⟩) h
   ·rw [show dh S i m2=S m2 from ah (fun e=>hne' e.symm),hs2] at hx;cases hx
   ·rw [show dh S i i=true from av rfl,show dh S i m2=S m2 from ah (fun e=>hne' e.symm),hs2]
    rfl
  ·by_cases h2:i=m2
   ·subst h2
    have hs1:S m1=true:=iL m1 (by simpa using h12)
    have hs0:S m0=true:=iL m0 (by simpa using h02)
    rw [aL,hs1] at hL
    subst hL
    have h:=Ke o b k S a w G1 ho aL iL hG HS hv
    refine lC (fun e a' w' ⟨he,hD⟩=>⟨he,fun _=>?_,b,k,_,?_,hD⟩) h
    ·rw [show dh S i m1=S m1 from ah hne',show dh S i m0=S m0 from ah ams];exact ⟨hs1,hs0⟩
    ·rw [show dh S i i=true from av rfl]
     rfl
   ·have e1:dh S i m1=S m1:=ah (fun e=>h1 e.symm)
    have e2:dh S i m2=S m2:=ah (fun e=>h2 e.symm)
    by_cases h0:i=m0
    ·have hs2:=hnot (.inr h0);clear hnot
     subst h0
     have h:=amo o b L' S a w G1 hsub ho aL iL hG HS fun k' j d hj hSj hd=>by
      obtain ⟨v,hv1,hv2⟩:=hv j d hSj hd
      exact ⟨v,hv1,hp0 b k k' j v _ (nX hj) (hno j (qB hd) hSj) hv2⟩
     refine lC (fun e a' w' ⟨he,k',hD⟩=>⟨he,fun hx=>?_,b,k',L',?_,hD⟩) h
     ·rw [e2,hs2] at hx;cases hx
     ·rw [e1,e2,hL,hs2];rfl
    ·have h:=yP hstep i o ho
     rw [fV] at h
     have e0:dh S i m0=S m0:=ah (fun e=>h0 e.symm)
     refine lC (fun e a' w' ⟨he,hD⟩=>⟨he,by rw [e1,e2,e0];exact Dt,b,k,L',?_,hD⟩) (h b k L' S a w G1 hsub hb (nX h0) (nX h1) (nX h2) aL iL hG HS hv)
     rw [e1,e2];exact hL
 ·rintro S a w hall Ic ⟨Dt,b,k,L',hL,G1,hG,HS,hv⟩
  have hs2:S m2=true:=hall m2 (Eq.mp Nat.blt_eq EM) NR
  rw [hs2] at hL
  subst hL
  exact hend b k a w G1 hG HS fun j d hb hd=>hv j d (hall j (qB hd) hb) hd
end
end
section
open Go.RowKit
theorem Rt:∀ args w,(callFunc 64 args).run prog w=.ok (.enter 64 args) w:=enters func64 rfl (by kernel_rfl)
theorem agy:∀ args w,(callFunc 117 args).run prog w=.ok (.enter 117 args) w:=enters func117 rfl (by kernel_rfl)
theorem nk.mono {acc rej:Int→Bool} {h:dW} {u:aj} {G G':GH} (hm:∀ b o,G b=some o→G' b=some o) (hd:nk acc rej h u G):nk acc rej h u G':=by
 unfold nk at hd ⊢
 split
 ·rename_i hg
  rw [av hg] at hd;obtain ⟨p,d,l,e,hh⟩:=hd;exact ⟨p,d,l,e,hh.mono hm⟩
 rename_i hg
 rw [ah hg] at hd;obtain ⟨p,d,l,e,hh⟩:=hd;exact ⟨p,d,l,e,hh.mono hm⟩
structure Bj (G:GH) (A R:List Int) (va vr:aj):Prop where
 ha:au G (.sl 1 (A.map fun k=>[li k])) va
 hr:au G (.sl 1 (R.map fun k=>[li k])) vr
 la:A.length≤4294967296
 lr:R.length≤4294967296
theorem Bj.mono {G G':GH} {A R:List Int} {va vr:aj} (hm:∀ b o,G b=some o→G' b=some o) (h:Bj G A R va vr):Bj G' A R va vr:=⟨h.ha.mono hm,h.hr.mono hm,h.la,h.lr⟩
variable {A R:List Int} {aA rA:Option Addr} {an ac rn rc:Nat}
def Mq (A R:List Int) (va vr:aj) (n:Nat):Prop:=∀ (G:GH) (w0:World),Hold G w0→Bj G A R va vr→∀ (l:List ay) (v:aj),au G (.sl 11 (l.map ay.dat)) v→cu l < n →
 Calls prog 64 #[v,.agg #[va,vr]] w0 (bB w0 G fun u G'=>au G' (.sl 11 ((fB (lsB A) (lsB R) l).map ay.dat)) u)
theorem aon {n:Nat} (ih:Mq A R (.slice aA an ac) (.slice rA rn rc) n) (hn:n≤536870913) (G:GH) (w0:World) (hG:Hold G w0) (hd:Bj G A R (.slice aA an ac) (.slice rA rn rc)) (l:List aX) (v:aj) (hv:au G (.sl 6 (l.map aX.dat)) v) (hz:gK l < n) :
  Calls prog 117 #[v,.agg #[.slice aA an ac,.slice rA rn rc]] w0 (bB w0 G fun u G'=>au G' (.sl 6 ((jE (lsB A) (lsB R) l).map aX.dat)) u):=by
 obtain ⟨LA,Mj,rfl,hc1,hc2,hg⟩:=hv.slice
 have hml:4294967297≤maxLen:=by decide
 have hll:=IV l;rw [bM] at *;refine eN [(0,_),(1,_)] func117 rfl ntmps117 rfl rfl hG ?_;refine ak 1 ?_;intro a H;refine dP (cs:=[_,_]) H wn rfl rfl rfl ?_;clear H;intro b3 a w hb3 H;refine aD 2 H ?_;clear H;intro a H;obtain ⟨Ga,hma,hb',H⟩:=H.dZ;have hga:=fun j v hj=>kL hb' 0 [.slice aA an ac,.slice rA rn rc] rfl j v hj;refine fO 8 H ?_;clear H;intro a H;refine eH (ι:=Nat × aj × List aj × OL × GH) (Tc:=[(0,_),(3,_)]) (Lc:=[]) (fun gh=>[(5,gh.2.1),(6,vi gh.1)]) (fun gh=>[]++gh.2.2.2.1) (fun gh=>gh.2.2.2.2) (fun gh=>gh.1≤l.length∧bV 74 6 gh.2.1 (jE (lsB A) (lsB R) (l.take gh.1)).length gh.2.2.1 gh.2.2.2.1∧bU gh.2.2.2.2 6 ((jE (lsB A) (lsB R) (l.take gh.1)).map aX.dat) gh.2.2.1∧(∀ b o,Ga b=some o→gh.2.2.2.2 b=some o)) (fun gh=>l.length - gh.1) ((0,.slice none 0 0,[],[],Ga)) sB ?_ ?_
 ·exact ⟨by omega,bV.nil,bU.nil,fun _ _ h=>h⟩
 clear H;rintro ⟨k,v,xs,Lo,g⟩ a w hI H;dsimp only at hI H;obtain ⟨hk,hrw,dV,hgm⟩:=hI;have hrl:=OT (acc:=lsB A) (rej:=lsB R) (l.take k);rw [List.length_take] at hrl;have rT:∀ b o,G b=some o→g b=some o:=fun b o h=>hgm b o (hma b o h);dsimp only [lca,bG] at H;refine dQ 7 H ?_ ?_ <;> clear H
 ·intro jJ
  have hk2:k < l.length:=by omega
  obtain ⟨b_,o_,pA,pn,pc,dA,dn,dc,yA,yn,yc,cA,cn,cc,rfl,hrow,hhd,hcl⟩:=KS hk2 hg;replace hrow:=fun j u hj=>aH rT (hrow j u hj);replace hhd:=hhd.mono rT;replace hcl:=hcl.mono rT
  have Ca:∀ j u,[.slice pA pn pc,vi l[k].head.marks.ins,vi l[k].head.marks.move,.slice dA dn dc,.slice yA yn yc][j]?=some u→aI g b_ (o_+k*6+0+j)=some u:=fun j u hj=>by
   have hj5:j < 5:=by by_cases h:j < 5;exact h;rw [List.getElem?_eq_none (by simpa using h)] at hj;cases hj
   refine hrow j u ?_
   match j,hj5 with
   | 0,_=>exact hj
   | 1,_=>exact hj
   | 2,_=>exact hj
   | 3,_=>exact hj
   | 4,_=>exact hj
  have hzr:=LW hk2;have hce:=U9 (acc:=lsB A) (rej:=lsB R) l[k];obtain ⟨cA',cc',hcs,Ta,alF,hgc⟩:=hcl.slice
  intro a H;injection hcs with e1 e2 e3
  rw [bM] at e2 Ta;subst e1 e2 e3;have alI:=IQ l[k].cells;refine fO 4 H ?_;clear H
  have oI:∀ (aJ:Nat) (bT:(Option Addr × Nat × Nat) × (Option Addr × Nat × Nat) × (Option Addr × Nat × Nat)) (aP:Nat) (v:aj) (G G':GH),(∀ k o,G k=some o→G' k=some o)→(fun (aJ:Nat) (bT:(Option Addr × Nat × Nat) × (Option Addr × Nat × Nat) × (Option Addr × Nat × Nat)) (aP:Nat) (v:aj) (G:GH)=>match aP with|0=>v=.slice (some ⟨b_,o_,none⟩) l.length Mj|1=>v=vi k|2=>v=(aG b_ (o_+k*6))|3=>v=(aG b_ (o_+k*6+0))|4=>v=.agg #[.slice pA pn pc,vi l[k].head.marks.ins,vi l[k].head.marks.move,.slice dA dn dc,.slice yA yn yc]|5=>v=.agg #[.slice aA an ac,.slice rA rn rc]|6=>v=.tuple #[.agg #[aM bT.1,vi (aY (lsB A) (lsB R) l[k].head).marks.ins,vi (aY (lsB A) (lsB R) l[k].head).marks.move,aM bT.2.1,aM bT.2.2],.bool (!decide (kX (lsB A) (lsB R) l[k].head))]∧fC G (aY (lsB A) (lsB R) l[k].head) (aM bT.1) (aM bT.2.1) (aM bT.2.2)|7=>v=.tuple #[.agg #[aM bT.1,vi (aY (lsB A) (lsB R) l[k].head).marks.ins,vi (aY (lsB A) (lsB R) l[k].head).marks.move,aM bT.2.1,aM bT.2.2],.bool (!decide (kX (lsB A) (lsB R) l[k].head))]∧fC G (aY (lsB A) (lsB R) l[k].head) (aM bT.1) (aM bT.2.1) (aM bT.2.2)|8=>v=.agg #[aM bT.1,vi (aY (lsB A) (lsB R) l[k].head).marks.ins,vi (aY (lsB A) (lsB R) l[k].head).marks.move,aM bT.2.1,aM bT.2.2]∧fC G (aY (lsB A) (lsB R) l[k].head) (aM bT.1) (aM bT.2.1) (aM bT.2.2)|9=>v=.bool (!decide (kX (lsB A) (lsB R) l[k].head))|10=>v=(aG aJ 0)|_=>True) aJ bT aP v G→(fun (aJ:Nat) (bT:(Option Addr × Nat × Nat) × (Option Addr × Nat × Nat) × (Option Addr × Nat × Nat)) (aP:Nat) (v:aj) (G:GH)=>match aP with|0=>v=.slice (some ⟨b_,o_,none⟩) l.length Mj|1=>v=vi k|2=>v=(aG b_ (o_+k*6))|3=>v=(aG b_ (o_+k*6+0))|4=>v=.agg #[.slice pA pn pc,vi l[k].head.marks.ins,vi l[k].head.marks.move,.slice dA dn dc,.slice yA yn yc]|5=>v=.agg #[.slice aA an ac,.slice rA rn rc]|6=>v=.tuple #[.agg #[aM bT.1,vi (aY (lsB A) (lsB R) l[k].head).marks.ins,vi (aY (lsB A) (lsB R) l[k].head).marks.move,aM bT.2.1,aM bT.2.2],.bool (!decide (kX (lsB A) (lsB R) l[k].head))]∧fC G (aY (lsB A) (lsB R) l[k].head) (aM bT.1) (aM bT.2.1) (aM bT.2.2)|7=>v=.tuple #[.agg #[aM bT.1,vi (aY (lsB A) (lsB R) l[k].head).marks.ins,vi (aY (lsB A) (lsB R) l[k].head).marks.move,aM bT.2.1,aM bT.2.2],.bool (!decide (kX (lsB A) (lsB R) l[k].head))]∧fC G (aY (lsB A) (lsB R) l[k].head) (aM bT.1) (aM bT.2.1) (aM bT.2.2)|8=>v=.agg #[aM bT.1,vi (aY (lsB A) (lsB R) l[k].head).marks.ins,vi (aY (lsB A) (lsB R) l[k].head).marks.move,aM bT.2.1,aM bT.2.2]∧fC G (aY (lsB A) (lsB R) l[k].head) (aM bT.1) (aM bT.2.1) (aM bT.2.2)|9=>v=.bool (!decide (kX (lsB A) (lsB R) l[k].head))|10=>v=(aG aJ 0)|_=>True) aJ bT aP v G':=by
   intro aJ bT aP v G G' hm h
   match aP,h with
   | 0,h=>exact h
   | 1,h=>exact h
   | 2,h=>exact h
   | 3,h=>exact h
   | 4,h=>exact h
   | 5,h=>exact h
   | 6,h=>exact ⟨h.1,h.2.mono hm⟩
   | 7,h=>exact ⟨h.1,h.2.mono hm⟩
   | 8,h=>exact ⟨h.1,h.2.mono hm⟩
   | 9,h=>exact h
   | 10,h=>exact h
   | 11,h=>exact trivial
   | 12,h=>exact trivial
   | _+13,h=>exact trivial
  intro a H;refine aev (κ:=(Option Addr × Nat × Nat) × (Option Addr × Nat × Nat) × (Option Addr × Nat × Nat)) (((none,0,0),(none,0,0),(none,0,0))) (hmx) [[],[],[0,1],[0,1,2],(ra 0 4),[],(ra 0 6),(ra 0 7),(ra 0 8),(ra 0 8),[],(ra 0 9++[10]),(ra 0 12)] [12] (by kernel_rfl) (by kernel_rfl) 6 10 11 (by decide) (by decide) (by decide) (by decide) (by decide) (by decide) (.cells #[.slice none 0 0,vi 0,vi 0,.slice none 0 0,.slice none 0 0] 29 (0,0)) (fun k_=>.cells #[aM k_.1,vi (aY (lsB A) (lsB R) l[k].head).marks.ins,vi (aY (lsB A) (lsB R) l[k].head).marks.move,aM k_.2.1,aM k_.2.2] 29 (0,0)) (fun (aJ:Nat) (bT:(Option Addr × Nat × Nat) × (Option Addr × Nat × Nat) × (Option Addr × Nat × Nat)) (aP:Nat) (v:aj) (G:GH)=>match aP with|0=>v=.slice (some ⟨b_,o_,none⟩) l.length Mj|1=>v=vi k|2=>v=(aG b_ (o_+k*6))|3=>v=(aG b_ (o_+k*6+0))|4=>v=.agg #[.slice pA pn pc,vi l[k].head.marks.ins,vi l[k].head.marks.move,.slice dA dn dc,.slice yA yn yc]|5=>v=.agg #[.slice aA an ac,.slice rA rn rc]|6=>v=.tuple #[.agg #[aM bT.1,vi (aY (lsB A) (lsB R) l[k].head).marks.ins,vi (aY (lsB A) (lsB R) l[k].head).marks.move,aM bT.2.1,aM bT.2.2],.bool (!decide (kX (lsB A) (lsB R) l[k].head))]∧fC G (aY (lsB A) (lsB R) l[k].head) (aM bT.1) (aM bT.2.1) (aM bT.2.2)|7=>v=.tuple #[.agg #[aM bT.1,vi (aY (lsB A) (lsB R) l[k].head).marks.ins,vi (aY (lsB A) (lsB R) l[k].head).marks.move,aM bT.2.1,aM bT.2.2],.bool (!decide (kX (lsB A) (lsB R) l[k].head))]∧fC G (aY (lsB A) (lsB R) l[k].head) (aM bT.1) (aM bT.2.1) (aM bT.2.2)|8=>v=.agg #[aM bT.1,vi (aY (lsB A) (lsB R) l[k].head).marks.ins,vi (aY (lsB A) (lsB R) l[k].head).marks.move,aM bT.2.1,aM bT.2.2]∧fC G (aY (lsB A) (lsB R) l[k].head) (aM bT.1) (aM bT.2.1) (aM bT.2.2)|9=>v=.bool (!decide (kX (lsB A) (lsB R) l[k].head))|10=>v=(aG aJ 0)|_=>True) (fun b b' k i v G hi hc h=>by match i,hi,hc,h with|0,_,_,h=>exact h|1,_,_,h=>exact h|2,_,_,h=>exact h|3,_,_,h=>exact h|4,_,_,h=>exact h|5,_,_,h=>exact h|6,_,_,h=>exact h|7,_,_,h=>exact h|8,_,_,h=>exact h|9,_,_,h=>exact h|10,hi,_,_=>exact absurd hi (by decide)|11,_,hc,_=>exact absurd hc (by decide)|12,_,hc,_=>exact absurd hc (by decide)|_+13,_,_,_=>exact trivial) (fun b k k' i v G hi hc h=>by match i,hi,hc,h with|0,_,_,h=>exact h|1,_,_,h=>exact h|2,_,_,h=>exact h|3,_,_,h=>exact h|4,_,_,h=>exact h|5,_,_,h=>exact h|6,hi,_,_=>exact absurd hi (by decide)|7,_,hc,_=>exact absurd hc (by decide)|8,_,hc,_=>exact absurd hc (by decide)|9,_,hc,_=>exact absurd hc (by decide)|10,_,_,h=>exact h|11,_,hc,_=>exact absurd hc (by decide)|12,_,hc,_=>exact absurd hc (by decide)|_+13,_,_,_=>exact trivial) H ?_ ?_ ?_ ?_ ?_ (by kernel_rfl)
  ·clear H;refine aF ?_ ?_ ?_ ?_ (aF ?_ ?_ ?_ ?_ (aF ?_ ?_ ?_ ?_ (bH ?_ cZ)))
   ·intro aJ bT dL aR a w G1 dO _ _ _ _ aL hc hG HT hv;have H:=HT;clear aL;have Hb:=H.full;have H:=Hb;clear hc;refine aD 1 H ?_;clear H;intro a H;refine aC ⟨rfl,?_⟩;exact dG (by kernel_rfl) (oI aJ bT) rfl rfl HT Hb hG hv (fun _ _ h=>h) (rfl) H
   ·intro aJ bT dL aR a w G1 dO _ _ _ _ aL hc hG HT hv;have H:=HT;clear aL;have Hb:=H.full;have H:=Hb;clear hc;refine aD 1 H ?_;clear H;intro a H;refine aC ⟨rfl,?_⟩;exact dG (by kernel_rfl) (oI aJ bT) rfl rfl HT Hb hG hv (fun _ _ h=>h) (rfl) H
   ·intro aJ bT dL aR a w G1 dO _ _ _ _ aL hc hG HT hv;have H:=HT;clear aL;have H:=H.aN (hv 0 21 (hc 0 (by decide)) rfl) rfl;have H:=H.aN (hv 1 22 (hc 1 (by decide)) rfl) rfl;have Hb:=H.full;have H:=Hb;clear hc;refine aD 1 H ?_;clear H;intro a H;refine aC ⟨rfl,?_⟩;exact dG (by kernel_rfl) (oI aJ bT) rfl rfl HT Hb hG hv (fun _ _ h=>h) (rfl) H
   ·intro aJ bT dL aR a w G1 dO _ _ _ _ aL hc hG HT hv;have H:=HT;clear aL;have H:=H.aN (hv 2 23 (hc 2 (by decide)) rfl) rfl;have Hb:=H.full;have H:=Hb;clear hc;refine aD 1 H ?_;clear H;intro a H;refine aC ⟨rfl,?_⟩;exact dG (by kernel_rfl) (oI aJ bT) rfl rfl HT Hb hG hv (fun _ _ h=>h) (rfl) H
   ·intro aJ bT dL aR a w G1 dO _ _ _ _ aL hc hG HT hv;have H:=HT;clear aL;have H:=H.aN (hv 3 24 (hc 3 (by decide)) rfl) rfl;have Hb:=H.full;have H:=Hb;clear hc;refine aS dw (cs:=[.slice pA pn pc,vi l[k].head.marks.ins,vi l[k].head.marks.move,.slice dA dn dc,.slice yA yn yc]) H wn rfl rfl (fun j v hj=>H.hp.aI (aH hG (Ca j v hj))) rfl ?_;clear H;intro a H;refine aC ⟨rfl,?_⟩;exact dG (by kernel_rfl) (oI aJ bT) rfl rfl HT Hb hG hv (fun _ _ h=>h) (rfl) H
   ·intro aJ bT dL aR a w G1 dO _ _ _ _ aL hc hG HT hv;have H:=HT;clear aL;have Hb:=H.full;have H:=Hb;clear hc;refine aS sI (cs:=[.slice aA an ac,.slice rA rn rc]) H wn rfl rfl (fun j v hj=>H.hp.aI (aH hG (aH hgm (hga j v hj)))) rfl ?_;clear H;intro a H;refine aC ⟨rfl,?_⟩;exact dG (by kernel_rfl) (oI aJ bT) rfl rfl HT Hb hG hv (fun _ _ h=>h) (rfl) H
   ·intro _ _ _ _ _ _ _ _ _ hB;exact absurd hB (by decide)
   ·intro aJ bT dL aR a w G1 dO _ _ _ _ aL hc hG HT hv;have H:=HT;clear aL;obtain ⟨u27,anc,ZW⟩:=hv 6 27 (hc 6 (by decide)) rfl;(try dsimp only at ZW);obtain ⟨rfl,Ht⟩:=ZW;have H:=H.gV anc;have Hb:=H.full;have H:=Hb;clear hc;refine aD 1 H ?_;clear H;intro a H;refine aC ⟨rfl,?_⟩;exact dG (by kernel_rfl) (oI aJ bT) rfl rfl HT Hb hG hv (fun _ _ h=>h) (⟨rfl,Ht⟩) H
   ·intro aJ bT dL aR a w G1 dO _ _ _ _ aL hc hG HT hv;have H:=HT;clear aL;obtain ⟨u20,TN,Kl⟩:=hv 7 20 (hc 7 (by decide)) rfl;(try dsimp only at Kl);obtain ⟨rfl,Ht⟩:=Kl;have H:=H.gV TN;have Hb:=H.full;have H:=Hb;clear hc;refine jK H wn rfl rfl rfl ?_;clear H;intro a H;refine aC ⟨rfl,?_⟩;exact dG (by kernel_rfl) (oI aJ bT) rfl rfl HT Hb hG hv (fun _ _ h=>h) (⟨rfl,Ht⟩) H
   ·intro aJ bT dL aR a w G1 dO _ _ _ _ aL hc hG HT hv;have H:=HT;clear aL;obtain ⟨u20,TN,Kl⟩:=hv 7 20 (hc 7 (by decide)) rfl;(try dsimp only at Kl);obtain ⟨rfl,Ht⟩:=Kl;have H:=H.gV TN;have Hb:=H.full;have H:=Hb;clear hc;refine jK H wn rfl rfl rfl ?_;clear H;intro a H;refine aC ⟨rfl,?_⟩;exact dG (by kernel_rfl) (oI aJ bT) rfl rfl HT Hb hG hv (fun _ _ h=>h) (rfl) H
   ·intro _ _ _ _ _ _ _ _ _ _ hB;exact absurd hB (by decide)
   ·intro _ _ _ _ _ _ _ _ _ _ _ hB;exact absurd hB (by decide)
   intro _ _ _ _ _ _ _ _ hB;exact absurd hB (by decide)
  ·clear H;intro o_ aJ dL aR a w G1 dO jW _ hc hG HT hv;obtain rfl:_=o_:=Option.some.inj jW;clear jW;have H:=HT;have H:=H.aN (hv (((none,0,0),(none,0,0),(none,0,0))) 4 25 (by decide) (hc 4 (by decide)) rfl) rfl;have H:=H.aN (hv (((none,0,0),(none,0,0),(none,0,0))) 5 26 (by decide) (hc 5 (by decide)) rfl) rfl;have Hb:=H.full;have H:=Hb;clear hc;refine s_call Ju H wn rfl (KL _ _ H.ro A R aA rA an ac rn rc (hd.ha.mono fun b o h=>hG b o (rT b o h)) (hd.hr.mono fun b o h=>hG b o (rT b o h)) hd.la hd.lr l[k].head _ _ _ (hhd.mono hG) (by omega)) rfl ?_;clear H;rintro v27 PW a w hd27 Ey H;obtain ⟨q1,q2,q3,q4,q5,q6,q7,q8,q9,rfl,Ht⟩:=hd27.ans;refine aC ⟨rfl,((q1,q2,q3),(q4,q5,q6),(q7,q8,q9)),?_⟩;exact Bz (by kernel_rfl) (oI aJ (((q1,q2,q3),(q4,q5,q6),(q7,q8,q9)))) rfl HT Hb hG (fun j e h1 h2 h3=>hv _ j e h1 h2 h3) Ey (⟨rfl,Ht⟩) H
  ·clear H;intro o_ bT aR a w G1 jW _ hc hG HT hv;obtain rfl:_=o_:=Option.some.inj jW;clear jW;have H:=HT;have Hb:=H.full;have H:=Hb;clear hc;refine dz dw H wn rfl ?_;clear H;intro b7 a w uM H;refine aC ⟨rfl,b7,?_⟩;exact Er (by kernel_rfl) rfl HT Hb hG (fun j e h1 h2 h3=>hv _ j e h1 h2 h3) (rfl) H
  ·clear H;intro o_ aJ bT aR a w G1 jW _ hc hG HT hv;obtain rfl:_=o_:=Option.some.inj jW;clear jW;have H:=HT;have H:=H.aN (hv 10 7 (hc 10 (by decide)) rfl) rfl;obtain ⟨u28,TP,Km⟩:=hv 8 28 (hc 8 (by decide)) rfl;(try dsimp only at Km);obtain ⟨rfl,Tn⟩:=Km;have H:=H.gV TP;have Hb:=H.full;have H:=Hb;clear hc;refine aV dw 0 (vs:=[_,_,_,_,_]) _ H wn rfl rfl rfl rfl rfl rfl rfl rfl ?_;clear H;intro w H;dsimp only [List.set,setRow] at H;refine aC ⟨rfl,?_⟩;exact QS rfl HT hG hv H
  clear H;intro b7 bT a w G kU H hv;have H:=H.aN (hv 10 7 rfl rfl) rfl;obtain ⟨u28,TP,Km⟩:=hv 8 28 (by decide) rfl;(try dsimp only at Km);obtain ⟨rfl,Tn⟩:=Km;have H:=H.gV TP;have H:=H.aN (hv 9 29 rfl rfl) rfl;clear hv;refine kH H (Ra rfl ?_);clear H;intro a H;obtain ⟨⟨q1,q2,q3⟩,⟨q4,q5,q6⟩,q7,q8,q9⟩:=bT;dsimp only [aM] at Tn H;refine aC ⟨rfl,?_⟩;refine dR ?_;refine R6 5 H ?_ ?_ <;> clear H
  ·intro h31
   try have p31:=dT h31
   have hone:sD (lsB A) (lsB R) l[k]=[]:=by rw [hce,av (by simpa using h31)]
   have lg:=kU;refine ak 5 ?_;intro a H;refine aC ?_;refine cB ((k+1,v,xs,Lo,_)) (by exact (H.dY (Pl:=[_]) (dM:=[]) [] (by decide) rfl).sub ⟨rfl,rfl,rfl,rfl,aU⟩) ?_ ?_
   ·(try dsimp only);exact ⟨by omega,by rw [yu hk2,hone,gD];exact hrw,by rw [yu hk2,hone,gD];exact dV.mono lg,fun b o h=>lg b o (hgm b o h)⟩
   first|omega|(dsimp only;omega)
  intro h31
  try have p31:=dF h31
  have tK:¬ kX (lsB A) (lsB R) l[k].head:=by simpa using h31
  rw [ah tK] at hce;obtain ⟨i1,hi1⟩:∃ x,x=(aY (lsB A) (lsB R) l[k].head).marks.ins:=⟨_,rfl⟩;obtain ⟨i2,Zv⟩:∃ x,x=(aY (lsB A) (lsB R) l[k].head).marks.move:=⟨_,rfl⟩;intro a H;rw [← hi1,← Zv] at H;refine fO 2 H ?_;clear H;intro a H;refine aS dw (cs:=[_,_,_,_,_]) H wn rfl rfl (H.hp.bN 0 rfl rfl) rfl ?_;clear H;intro a H;refine iy O9 [_,_,_,_,_,_] H wn rfl rfl rfl rfl ?_;clear H;intro a H;refine dz jL H wn rfl ?_;clear H;intro b9 a w rQ H;refine aV jL 0 (vs:=[_,_,_,_,_,_]) _ H wn rfl rfl rfl rfl rfl rfl rfl rfl ?_;clear H;intro w H;dsimp only [List.set,setRow] at H;refine aD 6 H ?_;clear H;intro a H;refine eH (ι:=Nat × aj × List aj × OL × GH) (Tc:=[(0,_),(3,_),(5,_),(6,_),(9,_)]) (Lc:=[(_,_)]) (fun gh=>[(10,vi gh.1)]) (fun gh=>[(b9,.cells #[.slice q1 q2 q3,vi i1,vi i2,.slice q4 q5 q6,.slice q7 q8 q9,gh.2.1] 74 (0,0))]++(Lo++gh.2.2.2.1)) (fun gh=>gh.2.2.2.2) (fun gh=>gh.1≤l[k].cells.length∧bV 76 7 gh.2.1 (iq (lsB A) (lsB R) (l[k].cells.take gh.1)).length gh.2.2.1 gh.2.2.2.1∧bU gh.2.2.2.2 7 ((iq (lsB A) (lsB R) (l[k].cells.take gh.1)).map bC.dat) gh.2.2.1∧(∀ b o,G b=some o→gh.2.2.2.2 b=some o)) (fun gh=>l[k].cells.length - gh.1) ((0,.slice none 0 0,[],[],G)) (by exact ((H.Im (A:=[_,_])).dY (Pl:=[_,_]) (dM:=[_,_]) [1,0] (by decide) rfl).sub ⟨rfl,rfl,rfl,rfl,rfl,rfl,aU⟩) ?_ ?_
  ·exact ⟨by omega,bV.nil,bU.nil,fun _ _ h=>h⟩
  clear H;rintro ⟨i,v2,xs2,Lc,g2⟩ a w hI H;dsimp only at hI H;obtain ⟨hi,hrw2,rR,iV⟩:=hI;have hrl2:=OQ (acc:=lsB A) (rej:=lsB R) (l[k].cells.take i);rw [List.length_take] at hrl2;obtain ⟨xA,xB,rfl,-,-⟩:=hrw2.shape;have hgx:∀ b o,g b=some o→g2 b=some o:=fun b o h=>iV b o (kU b o h);have r5:=aH hgx (hrow 5 _ rfl);dsimp only [lca,bG] at H;refine dQ 11 H ?_ ?_ <;> clear H
  ·intro p41
   have hi2:i < l[k].cells.length:=by omega
   obtain ⟨b2_,o2_,uA,un,uc,gA,gn,gc,zA,zn,zc,wA,FN,wc,rfl,hrow2,EI,EG⟩:=Jg hi2 hgc;replace hrow2:=fun j u hj=>aH hgx (hrow2 j u hj);replace EI:=EI.mono hgx;replace EG:=EG.mono hgx;have hzc:=LV hi2;have J2:=U6 (acc:=lsB A) (rej:=lsB R) l[k].cells[i];refine ak 11 ?_;intro a H;refine aS jQ (cs:=[_,_,_,_,_,_,_]) H wn rfl rfl (fun j v hj=>H.hp.aI (hrow2 j v hj)) rfl ?_;clear H;intro a H;refine dz jQ H wn rfl ?_;clear H;intro b11 a w EA H;refine aV jQ 0 (vs:=[_,_,_,_,_,_,_]) _ H wn rfl rfl rfl rfl rfl rfl rfl rfl ?_;clear H;intro w H;dsimp only [List.set,setRow] at H;refine aD 3 H ?_;clear H;intro a H;refine aS dw (cs:=[_,_,_,_,_]) H wn rfl rfl (H.hp.bN 0 rfl rfl) rfl ?_;clear H;intro a H;refine aS sI (cs:=[.slice aA an ac,.slice rA rn rc]) H wn rfl rfl (fun j v hj=>H.hp.aI (aH hgx (aH hgm (hga j v hj)))) rfl ?_;clear H;intro a H;refine s_call Ju H wn rfl (KL _ _ H.ro A R aA rA an ac rn rc (hd.ha.mono fun b o h=>hgx b o (rT b o h)) (hd.hr.mono fun b o h=>hgx b o (rT b o h)) hd.la hd.lr l[k].cells[i].head _ _ _ EI (by omega)) rfl ?_;clear H;rintro v56 G56 a w alM EK H;obtain ⟨r1,r2,r3,r4,tT,r6,r7,r8,r9,rfl,amd⟩:=alM.ans;refine aD 1 H ?_;clear H;intro a H;(iterate 2 refine jK H wn rfl rfl rfl ?_;clear H;intro a H);refine dz dw H wn rfl ?_;clear H;intro b12 a w EB H;refine aV dw 0 (vs:=[_,_,_,_,_]) _ H wn rfl rfl rfl rfl rfl rfl rfl rfl ?_;clear H;intro w H;dsimp only [List.set,setRow] at H;refine iU 5 H ?_ ?_ <;> clear H
   ·intro JF
    try have p59:=dT JF
    have Kh:¬ kX (lsB A) (lsB R) l[k].cells[i].head:=by simpa using JF
    have zy:uX (lsB A) (lsB R) l[k].cells[i]=[.mk l[k].cells[i].id (aY (lsB A) (lsB R) l[k].cells[i].head) (fB (lsB A) (lsB R) l[k].cells[i].flow)]:=by rw [J2,ah Kh,aY,ah Kh]
    have zC:∀ (aJ:Nat→aj × OL) (aP:Nat) (v:aj) (G G':GH),(∀ k o,G k=some o→G' k=some o)→(fun (aJ:Nat→aj × OL) (aP:Nat) (v:aj) (G:GH)=>match aP with|0=>v=(aG b9 (0+5))|1=>v=.slice xA (iq (lsB A) (lsB R) (l[k].cells.take i)).length xB|2=>v=(aG b11 0)|3=>v=vi l[k].cells[i].id|4=>v=.agg #[.slice r1 r2 r3,vi (aY (lsB A) (lsB R) l[k].cells[i].head).marks.ins,vi (aY (lsB A) (lsB R) l[k].cells[i].head).marks.move,.slice r4 tT r6,.slice r7 r8 r9]|5=>v=(aG b11 6)|6=>v=.slice wA FN wc|7=>v=.agg #[.slice aA an ac,.slice rA rn rc]|8=>au G (.sl 11 ((fB (lsB A) (lsB R) l[k].cells[i].flow).map ay.dat)) v|9=>∃ A' n c,v=.agg #[vi l[k].cells[i].id,.slice r1 r2 r3,vi (aY (lsB A) (lsB R) l[k].cells[i].head).marks.ins,vi (aY (lsB A) (lsB R) l[k].cells[i].head).marks.move,.slice r4 tT r6,.slice r7 r8 r9,.slice A' n c]∧au G (.sl 11 ((fB (lsB A) (lsB R) l[k].cells[i].flow).map ay.dat)) (.slice A' n c)|10=>∃ b A' n c,v=.slice (some ⟨b,0,none⟩) 1 1∧aJ 10=(.slice (some ⟨b,0,none⟩) 1 1,[(b,.cells #[vi l[k].cells[i].id,.slice r1 r2 r3,vi (aY (lsB A) (lsB R) l[k].cells[i].head).marks.ins,vi (aY (lsB A) (lsB R) l[k].cells[i].head).marks.move,.slice r4 tT r6,.slice r7 r8 r9,.slice A' n c] 76 (0,0))])∧au G (.sl 11 ((fB (lsB A) (lsB R) l[k].cells[i].flow).map ay.dat)) (.slice A' n c)|_=>True) aJ aP v G→(fun (aJ:Nat→aj × OL) (aP:Nat) (v:aj) (G:GH)=>match aP with|0=>v=(aG b9 (0+5))|1=>v=.slice xA (iq (lsB A) (lsB R) (l[k].cells.take i)).length xB|2=>v=(aG b11 0)|3=>v=vi l[k].cells[i].id|4=>v=.agg #[.slice r1 r2 r3,vi (aY (lsB A) (lsB R) l[k].cells[i].head).marks.ins,vi (aY (lsB A) (lsB R) l[k].cells[i].head).marks.move,.slice r4 tT r6,.slice r7 r8 r9]|5=>v=(aG b11 6)|6=>v=.slice wA FN wc|7=>v=.agg #[.slice aA an ac,.slice rA rn rc]|8=>au G (.sl 11 ((fB (lsB A) (lsB R) l[k].cells[i].flow).map ay.dat)) v|9=>∃ A' n c,v=.agg #[vi l[k].cells[i].id,.slice r1 r2 r3,vi (aY (lsB A) (lsB R) l[k].cells[i].head).marks.ins,vi (aY (lsB A) (lsB R) l[k].cells[i].head).marks.move,.slice r4 tT r6,.slice r7 r8 r9,.slice A' n c]∧au G (.sl 11 ((fB (lsB A) (lsB R) l[k].cells[i].flow).map ay.dat)) (.slice A' n c)|10=>∃ b A' n c,v=.slice (some ⟨b,0,none⟩) 1 1∧aJ 10=(.slice (some ⟨b,0,none⟩) 1 1,[(b,.cells #[vi l[k].cells[i].id,.slice r1 r2 r3,vi (aY (lsB A) (lsB R) l[k].cells[i].head).marks.ins,vi (aY (lsB A) (lsB R) l[k].cells[i].head).marks.move,.slice r4 tT r6,.slice r7 r8 r9,.slice A' n c] 76 (0,0))])∧au G (.sl 11 ((fB (lsB A) (lsB R) l[k].cells[i].flow).map ay.dat)) (.slice A' n c)|_=>True) aJ aP v G':=by
     intro aJ aP v G G' hm h
     match aP,h with
     | 0,h=>exact h
     | 1,h=>exact h
     | 2,h=>exact h
     | 3,h=>exact h
     | 4,h=>exact h
     | 5,h=>exact h
     | 6,h=>exact h
     | 7,h=>exact h
     | 8,h=>exact au.mono hm h
     | 9,h=>exact let ⟨A,n,c,h1,h2⟩:=h;⟨A,n,c,h1,h2.mono hm⟩
     | 10,h=>exact let ⟨b,A,n,c,h0,h1,h2⟩:=h;⟨b,A,n,c,h0,h1,h2.mono hm⟩
     | 11,h=>exact trivial
     | 12,h=>exact trivial
     | 13,h=>exact trivial
     | _+14,h=>exact trivial
    intro a H;refine MJ [10] (hmx) [[],[0],[],[2],[],[],[5],[],[5,6,7],(ra 2 7),(ra 2 8),(ra 0 11),(ra 0 12),(ra 0 13)] [11,12,13] (by kernel_rfl) (by kernel_rfl) (by decide) (by kernel_rfl) (fun (aJ:Nat→aj × OL) (aP:Nat) (v:aj) (G:GH)=>match aP with|0=>v=(aG b9 (0+5))|1=>v=.slice xA (iq (lsB A) (lsB R) (l[k].cells.take i)).length xB|2=>v=(aG b11 0)|3=>v=vi l[k].cells[i].id|4=>v=.agg #[.slice r1 r2 r3,vi (aY (lsB A) (lsB R) l[k].cells[i].head).marks.ins,vi (aY (lsB A) (lsB R) l[k].cells[i].head).marks.move,.slice r4 tT r6,.slice r7 r8 r9]|5=>v=(aG b11 6)|6=>v=.slice wA FN wc|7=>v=.agg #[.slice aA an ac,.slice rA rn rc]|8=>au G (.sl 11 ((fB (lsB A) (lsB R) l[k].cells[i].flow).map ay.dat)) v|9=>∃ A' n c,v=.agg #[vi l[k].cells[i].id,.slice r1 r2 r3,vi (aY (lsB A) (lsB R) l[k].cells[i].head).marks.ins,vi (aY (lsB A) (lsB R) l[k].cells[i].head).marks.move,.slice r4 tT r6,.slice r7 r8 r9,.slice A' n c]∧au G (.sl 11 ((fB (lsB A) (lsB R) l[k].cells[i].flow).map ay.dat)) (.slice A' n c)|10=>∃ b A' n c,v=.slice (some ⟨b,0,none⟩) 1 1∧aJ 10=(.slice (some ⟨b,0,none⟩) 1 1,[(b,.cells #[vi l[k].cells[i].id,.slice r1 r2 r3,vi (aY (lsB A) (lsB R) l[k].cells[i].head).marks.ins,vi (aY (lsB A) (lsB R) l[k].cells[i].head).marks.move,.slice r4 tT r6,.slice r7 r8 r9,.slice A' n c] 76 (0,0))])∧au G (.sl 11 ((fB (lsB A) (lsB R) l[k].cells[i].flow).map ay.dat)) (.slice A' n c)|_=>True) (fun m hm x y i v G hi hc h=>by
     have hm:m=10:=by simpa using hm
     rcases hm with rfl
     ·match i,hi,hc,h with
      | 0,_,_,h=>exact h
      | 1,_,_,h=>exact h
      | 2,_,_,h=>exact h
      | 3,_,_,h=>exact h
      | 4,_,_,h=>exact h
      | 5,_,_,h=>exact h
      | 6,_,_,h=>exact h
      | 7,_,_,h=>exact h
      | 8,_,_,h=>exact h
      | 9,_,_,h=>exact h
      | 10,hi,_,_=>exact absurd hi (by decide)
      | 11,_,hc,_=>exact absurd hc (by decide)
      | 12,_,hc,_=>exact absurd hc (by decide)
      | 13,_,hc,_=>exact absurd hc (by decide)
      | _+14,_,_,_=>exact trivial
     ) H ?_ ?_ ?_
    ·clear H;refine aF ?_ ?_ ?_ ?_ (aF ?_ ?_ ?_ ?_ (aF ?_ ?_ ?_ ?_ (bH ?_ (bH ?_ cZ))))
     ·intro aJ dL aR a w G1 dO _ _ aL hc hG HT hv;have H:=HT;clear aL;have Hb:=H.full;have H:=Hb;clear hc;refine aD 1 H ?_;clear H;intro a H;refine aC ⟨rfl,?_⟩;exact dG (by kernel_rfl) (zC aJ) rfl rfl HT Hb hG hv (fun _ _ h=>h) (rfl) H
     ·intro aJ dL aR a w G1 dO _ _ aL hc hG HT hv;have H:=HT;clear aL;have H:=H.aN (hv 0 60 (hc 0 (by decide)) rfl) rfl;have Hb:=H.full;have H:=Hb;clear hc;refine iF IE H wn rfl (H.hp.wY (dO _ (gH _ (gH _ (gH _ fM)))) rfl) rfl ?_;clear H;intro a H;refine aC ⟨rfl,?_⟩;exact dG (by kernel_rfl) (zC aJ) rfl rfl HT Hb hG hv (fun _ _ h=>h) (rfl) H
     ·intro aJ dL aR a w G1 dO _ _ aL hc hG HT hv;have H:=HT;clear aL;have Hb:=H.full;have H:=Hb;clear hc;refine aD 1 H ?_;clear H;intro a H;refine aC ⟨rfl,?_⟩;exact dG (by kernel_rfl) (zC aJ) rfl rfl HT Hb hG hv (fun _ _ h=>h) (rfl) H
     ·intro aJ dL aR a w G1 dO _ _ aL hc hG HT hv;have H:=HT;clear aL;have H:=H.aN (hv 2 62 (hc 2 (by decide)) rfl) rfl;have Hb:=H.full;have H:=Hb;clear hc;refine iF bR H wn rfl (H.hp.wY (dO _ (gH _ fM)) rfl) rfl ?_;clear H;intro a H;refine aC ⟨rfl,?_⟩;exact dG (by kernel_rfl) (zC aJ) rfl rfl HT Hb hG hv (fun _ _ h=>h) (rfl) H
     ·intro aJ dL aR a w G1 dO _ _ aL hc hG HT hv;have H:=HT;clear aL;have Hb:=H.full;have H:=Hb;clear hc;refine aS dw (cs:=[.slice r1 r2 r3,vi (aY (lsB A) (lsB R) l[k].cells[i].head).marks.ins,vi (aY (lsB A) (lsB R) l[k].cells[i].head).marks.move,.slice r4 tT r6,.slice r7 r8 r9]) H wn rfl rfl (fun j v hj=>H.hp.wY (dO _ fM) (by simpa using hj)) rfl ?_;clear H;intro a H;refine aC ⟨rfl,?_⟩;exact dG (by kernel_rfl) (zC aJ) rfl rfl HT Hb hG hv (fun _ _ h=>h) (rfl) H
     ·intro aJ dL aR a w G1 dO _ _ aL hc hG HT hv;have H:=HT;clear aL;have Hb:=H.full;have H:=Hb;clear hc;refine aD 1 H ?_;clear H;intro a H;refine aC ⟨rfl,?_⟩;exact dG (by kernel_rfl) (zC aJ) rfl rfl HT Hb hG hv (fun _ _ h=>h) (rfl) H
     ·intro aJ dL aR a w G1 dO _ _ aL hc hG HT hv;have H:=HT;clear aL;have H:=H.aN (hv 5 65 (hc 5 (by decide)) rfl) rfl;have Hb:=H.full;have H:=Hb;clear hc;refine iF pK H wn rfl (H.hp.wY (dO _ (gH _ fM)) rfl) rfl ?_;clear H;intro a H;refine aC ⟨rfl,?_⟩;exact dG (by kernel_rfl) (zC aJ) rfl rfl HT Hb hG hv (fun _ _ h=>h) (rfl) H
     ·intro aJ dL aR a w G1 dO _ _ aL hc hG HT hv;have H:=HT;clear aL;have Hb:=H.full;have H:=Hb;clear hc;refine aS sI (cs:=[.slice aA an ac,.slice rA rn rc]) H wn rfl rfl (fun j v hj=>H.hp.aI (aH hG (aH EK (aH hgx (aH hgm (hga j v hj)))))) rfl ?_;clear H;intro a H;refine aC ⟨rfl,?_⟩;exact dG (by kernel_rfl) (zC aJ) rfl rfl HT Hb hG hv (fun _ _ h=>h) (rfl) H
     ·intro aJ dL aR a w G1 dO _ _ aL hc hG HT hv;have H:=HT;clear aL;have H:=H.aN (hv 6 66 (hc 6 (by decide)) rfl) rfl;have H:=H.aN (hv 7 67 (hc 7 (by decide)) rfl) rfl;have Hb:=H.full;have H:=Hb;clear hc;refine s_call Rt H wn rfl (ih _ _ H.ro (hd.mono fun b o h=>hG b o (EK b o (hgx b o (rT b o h)))) l[k].cells[i].flow _ (EG.mono fun b o h=>hG b o (EK b o h)) (by omega)) rfl ?_;clear H;rintro v68 G68 a w Kq akH H;refine aC ⟨rfl,?_⟩;exact dG (by kernel_rfl) (zC aJ) rfl rfl HT Hb hG hv akH (Kq) H
     ·intro aJ dL aR a w G1 dO _ _ aL hc hG HT hv;have H:=HT;clear aL;have H:=H.aN (hv 3 63 (hc 3 (by decide)) rfl) rfl;have H:=H.aN (hv 4 64 (hc 4 (by decide)) rfl) rfl;obtain ⟨u68,anj,Kq⟩:=hv 8 68 (hc 8 (by decide)) rfl;(try dsimp only at Kq);obtain ⟨yK,n52,yQ,rfl⟩:=Kq.form;have H:=H.gV anj;have Hb:=H.full;have H:=Hb;clear hc;refine iy Pb [_,_,_,_,_,_,_] H wn rfl rfl rfl rfl ?_;clear H;intro a H;refine aC ⟨rfl,?_⟩;exact dG (by kernel_rfl) (zC aJ) rfl rfl HT Hb hG hv (fun _ _ h=>h) (⟨_,_,_,rfl,Kq⟩) H
     ·intro _ _ _ _ _ _ _ _ hB;exact absurd hB (by decide)
     ·intro _ _ _ _ _ _ _ hB;exact absurd hB (by decide)
     ·intro _ _ _ _ _ _ _ hB;exact absurd hB (by decide)
     intro _ _ _ _ _ _ _ hB;exact absurd hB (by decide)
    ·clear H;refine aF ?_ ?_ ?_ ?_ (aF ?_ ?_ ?_ ?_ (aF ?_ ?_ ?_ ?_ (bH ?_ (bH ?_ cZ))))
     ·intro hB;exact absurd hB (by decide)
     ·intro hB;exact absurd hB (by decide)
     ·intro hB;exact absurd hB (by decide)
     ·intro hB;exact absurd hB (by decide)
     ·intro hB;exact absurd hB (by decide)
     ·intro hB;exact absurd hB (by decide)
     ·intro hB;exact absurd hB (by decide)
     ·intro hB;exact absurd hB (by decide)
     ·intro hB;exact absurd hB (by decide)
     ·intro hB;exact absurd hB (by decide)
     ·intro _ aJ dL aR a w G1 dO _ hc hG HT hv;have H:=HT;obtain ⟨u69,ank,NZ⟩:=hv (.bool false,[]) 9 69 (by decide) (hc 9 (by decide)) rfl;(try dsimp only at NZ);obtain ⟨sN,n53,c53,rfl,NZ⟩:=NZ;have H:=H.gV ank;have Hb:=H.full;have H:=Hb;clear hc;refine gJ CF jQ [_,_,_,_,_,_,_] [_,_,_,_,_,_,_] H wn rfl rfl rfl rfl rfl (by intro i q h;match i,h with|0,h=>exact h|n+1,h=>simp at h) rfl rfl ?_;clear H;intro CY a w atG H;refine aC ⟨rfl,(.slice (some ⟨CY,0,none⟩) 1 1,[(CY,.cells #[vi l[k].cells[i].id,.slice r1 r2 r3,vi (aY (lsB A) (lsB R) l[k].cells[i].head).marks.ins,vi (aY (lsB A) (lsB R) l[k].cells[i].head).marks.move,.slice r4 tT r6,.slice r7 r8 r9,.slice sN n53 c53] 76 (0,0))]),?_⟩;exact Bz (by kernel_rfl) (zC (vo aJ 10 (.slice (some ⟨CY,0,none⟩) 1 1,[(CY,.cells #[vi l[k].cells[i].id,.slice r1 r2 r3,vi (aY (lsB A) (lsB R) l[k].cells[i].head).marks.ins,vi (aY (lsB A) (lsB R) l[k].cells[i].head).marks.move,.slice r4 tT r6,.slice r7 r8 r9,.slice sN n53 c53] 76 (0,0))]))) rfl HT Hb hG (fun j e h1 h2 h3=>hv (.slice (some ⟨CY,0,none⟩) 1 1,[(CY,.cells #[vi l[k].cells[i].id,.slice r1 r2 r3,vi (aY (lsB A) (lsB R) l[k].cells[i].head).marks.ins,vi (aY (lsB A) (lsB R) l[k].cells[i].head).marks.move,.slice r4 tT r6,.slice r7 r8 r9,.slice sN n53 c53] 76 (0,0))]) j e h1 h2 h3) (fun _ _ h=>h) (⟨CY,sN,n53,c53,rfl,rfl,NZ⟩) H
     ·intro hB;exact absurd hB (by decide)
     ·intro hB;exact absurd hB (by decide)
     intro hB;exact absurd hB (by decide)
    clear H;intro aJ a w G wP H hv
    simp only [oG,List.flatMap_cons,List.flatMap_nil,cond_true,gD,jd] at H
    have H:=H.aN (hv 1 61 rfl rfl) rfl;obtain ⟨u70,TS,Kr⟩:=hv 10 70 (by decide) rfl;(try dsimp only at Kr);obtain ⟨CY,yK,n52,yQ,rfl,e70,BS⟩:=Kr;have H:=H.gV TS;clear hv;rw [e70] at H;dsimp only [lca,bG] at H;have aag:aW G (bC.dat (.mk l[k].cells[i].id (aY (lsB A) (lsB R) l[k].cells[i].head) (fB (lsB A) (lsB R) l[k].cells[i].flow))) [vi l[k].cells[i].id,.slice r1 r2 r3,vi (aY (lsB A) (lsB R) l[k].cells[i].head).marks.ins,vi (aY (lsB A) (lsB R) l[k].cells[i].head).marks.move,.slice r4 tT r6,.slice r7 r8 r9,.slice yK n52 yQ]:=aW.KM (x:=.mk l[k].cells[i].id (aY (lsB A) (lsB R) l[k].cells[i].head) (fB (lsB A) (lsB R) l[k].cells[i].flow)) (amd.mono wP) BS;refine lJ (Li:=[_,_,_,_,_]++Lo) (Lo:=Lc) (news:=[vi l[k].cells[i].id,.slice r1 r2 r3,vi (aY (lsB A) (lsB R) l[k].cells[i].head).marks.ins,vi (aY (lsB A) (lsB R) l[k].cells[i].head).marks.move,.slice r4 tT r6,.slice r7 r8 r9,.slice yK n52 yQ]) CF jQ rfl rfl (St.un (A:=[_,_,_,_,_]) H) wn rfl rfl hrw2 rfl (H.hp.bN 0 rfl rfl) aag.one (by omega) (by omega) rfl ?_;clear H;intro v71 adH a w aan H;obtain ⟨auz,auA,rfl,-,-⟩:=aan.shape;have H:=H.assoc;dsimp only [lca,bG] at H;refine kH H (Rf JA rfl ?_);clear H;intro a H;refine aV IE 4 (vs:=[_]) _ H wn rfl rfl rfl rfl rfl rfl rfl rfl ?_;clear H;intro w H;dsimp only [List.set,setRow] at H;refine aC ⟨rfl,?_⟩;refine dR ?_;refine fO 4 H ?_;clear H;intro a H;refine aC ?_;refine cB ((i+1,_,xs2++[vi l[k].cells[i].id,.slice r1 r2 r3,vi (aY (lsB A) (lsB R) l[k].cells[i].head).marks.ins,vi (aY (lsB A) (lsB R) l[k].cells[i].head).marks.move,.slice r4 tT r6,.slice r7 r8 r9,.slice yK n52 yQ],adH,_)) (by exact (H.dY (Pl:=[_,_,_,_,_]) (dM:=[_,_]) [3,4] (by decide) rfl).sub ⟨rfl,rfl,rfl,rfl,rfl,rfl,aU⟩) ?_ ?_
    ·(try dsimp only);exact ⟨by omega,by rw [DN hi2,zy,iC];exact aan,by rw [DN hi2,zy,kQ];exact (rR.mono fun b o h=>wP b o (EK b o h)).snoc aag rfl,fun b o h=>wP b o (EK b o (iV b o h))⟩
    first|omega|(dsimp only;omega)
   intro JF
   try have p59:=dF JF
   have zy:uX (lsB A) (lsB R) l[k].cells[i]=[]:=by rw [J2,av (by simpa using JF)]
   refine ak 5 ?_;intro a H;refine aC ?_;refine cB ((i+1,_,xs2,Lc,_)) (by exact (H.dY (Pl:=[_,_,_,_]) (dM:=[_,_]) [2,3] (by decide) rfl).sub ⟨rfl,rfl,rfl,rfl,rfl,rfl,aU⟩) ?_ ?_
   ·(try dsimp only);exact ⟨by omega,by rw [DN hi2,zy,gD];exact hrw2,by rw [DN hi2,zy,gD];exact rR.mono EK,fun b o h=>EK b o (iV b o h)⟩
   first|omega|(dsimp only;omega)
  intro p41
  obtain rfl:i=l[k].cells.length:=by omega
  subst hi1 Zv;intro a H;rw [vE] at hrw2 rR hrl2 H;have H:=H.un (A:=[_,_]);obtain ⟨Gr,hmr,hrep,H⟩:=St.mR (Li:=[_,_]++Lo) H hrw2 (rows:=(iq (lsB A) (lsB R) l[k].cells).map bC.dat) (by simp) rR;have lg:∀ b o,g b=some o→Gr b=some o:=fun b o h=>hmr b o (hgx b o h);dsimp only [lca,bG] at H;refine dQ 7 H ?_ ?_ <;> clear H
  ·intro KP
   have hone:sD (lsB A) (lsB R) l[k]=[.mk (aY (lsB A) (lsB R) l[k].head) (iq (lsB A) (lsB R) l[k].cells)]:=by rw [hce,ah (by omega),aY,ah tK]
   have aah:aW Gr (aX.dat (.mk (aY (lsB A) (lsB R) l[k].head) (iq (lsB A) (lsB R) l[k].cells))) [.slice q1 q2 q3,vi (aY (lsB A) (lsB R) l[k].head).marks.ins,vi (aY (lsB A) (lsB R) l[k].head).marks.move,.slice q4 q5 q6,.slice q7 q8 q9,.slice xA (iq (lsB A) (lsB R) l[k].cells).length xB]:=aW.KN (x:=.mk (aY (lsB A) (lsB R) l[k].head) (iq (lsB A) (lsB R) l[k].cells)) (Tn.mono fun b o h=>hmr b o (iV b o h)) hrep;refine ak 2 ?_;intro a H;refine aS jL (cs:=[_,_,_,_,_,_]) H wn rfl rfl (H.hp.bN 1 rfl rfl) rfl ?_;clear H;intro a H;refine gJ FL jL [_,_,_,_,_,_] [_,_,_,_,_,_] H wn rfl rfl rfl rfl rfl (by intro i q h;match i,h with|0,h=>exact h|n+1,h=>simp at h) rfl rfl ?_;clear H;intro b79 a w atH H;refine lJ (Li:=[_,_,_]) (Lo:=Lo) (news:=[.slice q1 q2 q3,vi (aY (lsB A) (lsB R) l[k].head).marks.ins,vi (aY (lsB A) (lsB R) l[k].head).marks.move,.slice q4 q5 q6,.slice q7 q8 q9,.slice xA (iq (lsB A) (lsB R) l[k].cells).length xB]) FL jL rfl rfl H wn rfl rfl hrw rfl (H.hp.bN 0 rfl rfl) aah.one (by omega) (by omega) rfl ?_;clear H;intro v80 adO a w amP H;refine aD 6 H ?_;clear H;intro a H;refine aC ?_;refine cB ((k+1,v80,xs++[.slice q1 q2 q3,vi (aY (lsB A) (lsB R) l[k].head).marks.ins,vi (aY (lsB A) (lsB R) l[k].head).marks.move,.slice q4 q5 q6,.slice q7 q8 q9,.slice xA (iq (lsB A) (lsB R) l[k].cells).length xB],adO,_)) (by exact (H.dY (Pl:=[_,_,_]) (dM:=[]) [] (by decide) rfl).sub ⟨rfl,rfl,rfl,rfl,aU⟩) ?_ ?_
   ·(try dsimp only);exact ⟨by omega,by rw [yu hk2,hone,iC];exact amP,by rw [yu hk2,hone,kQ];exact (dV.mono lg).snoc aah rfl,fun b o h=>lg b o (hgm b o h)⟩
   first|omega|(dsimp only;omega)
  intro KP
  have hone:sD (lsB A) (lsB R) l[k]=[]:=by rw [hce,av (by omega)]
  refine ak 5 ?_;intro a H;refine aC ?_;refine cB ((k+1,v,xs,Lo,_)) (by exact (H.dY (Pl:=[_,_]) (dM:=[]) [] (by decide) rfl).sub ⟨rfl,rfl,rfl,rfl,aU⟩) ?_ ?_
  ·(try dsimp only);exact ⟨by omega,by rw [yu hk2,hone,gD];exact hrw,by rw [yu hk2,hone,gD];exact dV.mono lg,fun b o h=>lg b o (hgm b o h)⟩
  first|omega|(dsimp only;omega)
 intro jJ
 obtain rfl:k=l.length:=by omega
 rw [vE] at hrw dV;refine ak 5 ?_;intro a H;refine bZ ?_;obtain ⟨G',hm,rV,H⟩:=H.mR (Li:=[]) hrw (rows:=(jE (lsB A) (lsB R) l).map aX.dat) (by simp) dV;refine lv H results117 rfl ?_;exact H.rt rV
theorem aom {n:Nat} (ih:Mq A R (.slice aA an ac) (.slice rA rn rc) n) (hn:n≤536870912):Mq A R (.slice aA an ac) (.slice rA rn rc) (n+1):=by
 intro G w0 hG hd l v hv hz;obtain ⟨LA,Mj,rfl,hc1,hc2,hg⟩:=hv.slice
 have hml:4294967297≤maxLen:=by decide
 have hll:=FP l;rw [bM] at *;refine eN [(0,_),(1,_)] func64 rfl ntmps64 rfl rfl hG ?_;refine ak 1 ?_;intro a H;refine dP (cs:=[_,_]) H wn rfl rfl rfl ?_;clear H;intro b3 a w hb3 H;refine aD 2 H ?_;clear H;intro a H;obtain ⟨Ga,hma,hb',H⟩:=H.dZ;have hga:=fun j v hj=>kL hb' 0 [.slice aA an ac,.slice rA rn rc] rfl j v hj;refine fO 8 H ?_;clear H;intro a H;refine eH (ι:=Nat × aj × List aj × OL × GH) (Tc:=[(0,_),(3,_)]) (Lc:=[]) (fun gh=>[(5,gh.2.1),(6,vi gh.1)]) (fun gh=>[]++gh.2.2.2.1) (fun gh=>gh.2.2.2.2) (fun gh=>gh.1≤l.length∧bV 68 11 gh.2.1 (fB (lsB A) (lsB R) (l.take gh.1)).length gh.2.2.1 gh.2.2.2.1∧bU gh.2.2.2.2 11 ((fB (lsB A) (lsB R) (l.take gh.1)).map ay.dat) gh.2.2.1∧(∀ b o,Ga b=some o→gh.2.2.2.2 b=some o)) (fun gh=>l.length - gh.1) ((0,.slice none 0 0,[],[],Ga)) sB ?_ ?_
 ·exact ⟨by omega,bV.nil,bU.nil,fun _ _ h=>h⟩
 clear H;rintro ⟨k,v,xs,Lo,g⟩ a w hI H;dsimp only at hI H;obtain ⟨hk,hrw,dV,hgm⟩:=hI;have hrl:=U8 (acc:=lsB A) (rej:=lsB R) (l.take k);rw [List.length_take] at hrl;have rT:∀ b o,G b=some o→g b=some o:=fun b o h=>hgm b o (hma b o h);dsimp only [lca,bG] at H;refine dQ 7 H ?_ ?_ <;> clear H
 ·intro oJ
  have hk2:k < l.length:=by omega
  obtain ⟨b_,o_,pA,pn,pc,dA,dn,dc,yA,yn,yc,fA,fn,fc,sA,sn,sc,rfl,hrow,hhd,hfl,hrs⟩:=Eu hk2 hg;replace hrow:=fun j u hj=>aH rT (hrow j u hj);replace hhd:=hhd.mono rT;replace hfl:=hfl.mono rT;replace hrs:=hrs.mono rT;have hzi:=IU hk2;have hce:=U7 (acc:=lsB A) (rej:=lsB R) l[k];refine ak 7 ?_;intro a H;refine aS gB (cs:=[_,_,_,_,_,_,_,_,_,_,_]) H wn rfl rfl (fun j v hj=>H.hp.aI (hrow j v hj)) rfl ?_;clear H;intro a H;refine dz gB H wn rfl ?_;clear H;intro b7 a w uM H;refine aV gB 0 (vs:=[_,_,_,_,_,_,_,_,_,_,_]) _ H wn rfl rfl rfl rfl rfl rfl rfl rfl ?_;clear H;intro w H;dsimp only [List.set,setRow] at H;refine aD 3 H ?_;clear H;intro a H;refine aS dw (cs:=[_,_,_,_,_]) H wn rfl rfl (H.hp.bN 0 rfl rfl) rfl ?_;clear H;intro a H;refine aS sI (cs:=[.slice aA an ac,.slice rA rn rc]) H wn rfl rfl (fun j v hj=>H.hp.aI (aH hgm (hga j v hj))) rfl ?_;clear H;intro a H;refine s_call Ju H wn rfl (KL _ _ H.ro A R aA rA an ac rn rc (hd.ha.mono rT) (hd.hr.mono rT) hd.la hd.lr l[k].head _ _ _ hhd (by omega)) rfl ?_;clear H;rintro v24 yN a w hd24 mX H;obtain ⟨q1,q2,q3,q4,q5,q6,q7,q8,q9,rfl,Tm⟩:=hd24.ans;refine aD 1 H ?_;clear H;intro a H;(iterate 2 refine jK H wn rfl rfl rfl ?_;clear H;intro a H);refine dz dw H wn rfl ?_;clear H;intro b8 a w Ar H;refine aV dw 0 (vs:=[_,_,_,_,_]) _ H wn rfl rfl rfl rfl rfl rfl rfl rfl ?_;clear H;intro w H;dsimp only [List.set,setRow] at H;refine iU 7 H ?_ ?_ <;> clear H
  ·intro vO
   try have p28:=dT vO
   have hone:qY (lsB A) (lsB R) l[k]=[]:=by rw [hce,av (by simpa using vO)]
   refine ak 5 ?_;intro a H;refine aC ?_;refine cB ((k+1,v,xs,Lo,_)) (by exact (H.dY (Pl:=[_,_]) (dM:=[]) [] (by decide) rfl).sub ⟨rfl,rfl,rfl,rfl,aU⟩) ?_ ?_
   ·(try dsimp only);exact ⟨by omega,by rw [wC hk2,hone,gD];exact hrw,by rw [wC hk2,hone,gD];exact dV.mono mX,fun b o h=>mX b o (hgm b o h)⟩
   first|omega|(dsimp only;omega)
  intro vO
  try have p28:=dF vO
  have tK:¬ kX (lsB A) (lsB R) l[k].head:=by simpa using vO
  rw [ah tK] at hce;have han:aY (lsB A) (lsB R) l[k].head=lF (lsB A) (lsB R) l[k].head:=ah tK;refine ak 2 ?_;intro a H;refine aS dw (cs:=[_,_,_,_,_]) H wn rfl rfl (H.hp.bN 0 rfl rfl) rfl ?_;clear H;refine ak 1 ?_;intro a H;refine aV dw 1 (vs:=[_,_,_,_,_]) _ H wn rfl rfl rfl rfl rfl rfl rfl rfl ?_;clear H;intro w H;dsimp only [List.set,setRow] at H;refine gQ 7 H ?_ ?_ <;> clear H
  ·intro p33
   refine ak 3 ?_;intro a H;refine aS sI (cs:=[.slice aA an ac,.slice rA rn rc]) H wn rfl rfl (fun j v hj=>H.hp.aI (aH mX (aH hgm (hga j v hj)))) rfl ?_;clear H;intro a H;refine s_call Rt H wn rfl (ih _ _ H.ro (hd.mono fun b o h=>mX b o (rT b o h)) l[k].flow _ (hfl.mono mX) (by omega)) rfl ?_;clear H;rintro v37 I4 a w ZX BP H;obtain ⟨A37,n37,c37,rfl⟩:=ZX.form;refine aD 1 H ?_;clear H;intro a H;refine aV pK 1 (vs:=[_]) _ H wn rfl rfl rfl rfl rfl rfl rfl rfl ?_;clear H;intro w H;dsimp only [List.set,setRow] at H;refine aC ?_;refine dR ?_;refine qz (ι:=ay × List aj × GH) (Tc:=[(0,_),(3,_),(5,_),(6,_),(7,_)]) (Lc:=[(_,_)]) (fun gh=>[]) (fun gh=>[(b7,.cells gh.2.1.toArray 68 (0,0))]++Lo) (fun gh=>gh.2.2) (fun gh=>qY (lsB A) (lsB R) l[k]=[gh.1]∧aW gh.2.2 gh.1.dat gh.2.1∧(∀ b o,yN b=some o→gh.2.2 b=some o)) sB ?_ ?_
   ·refine dQ 5 H ?_ ?_ <;> clear H
    ·intro p41
     intro a H;omega
    intro p41
    intro a H;refine jB ?_;refine ⟨(.mk l[k].kind l[k].code l[k].id l[k].text (aY (lsB A) (lsB R) l[k].head) (fB (lsB A) (lsB R) l[k].flow) l[k].rows,[vi l[k].kind,vi l[k].code,vi l[k].id,.string l[k].text,.slice q1 q2 q3,vi (aY (lsB A) (lsB R) l[k].head).marks.ins,vi (aY (lsB A) (lsB R) l[k].head).marks.move,.slice q4 q5 q6,.slice q7 q8 q9,.slice A37 n37 c37,.slice sA sn sc],I4),sB,?_⟩;(try dsimp only);exact ⟨by rw [hce,av (by omega),han],aW.mkItem (x:=.mk l[k].kind l[k].code l[k].id l[k].text (aY (lsB A) (lsB R) l[k].head) (fB (lsB A) (lsB R) l[k].flow) l[k].rows) (Tm.mono BP) ZX (hrs.mono fun b o h=>BP b o (mX b o h)),BP⟩
   clear H;rintro ⟨y,C9,g9⟩ a w hI H;dsimp only at hI H;obtain ⟨hone,wV,qR⟩:=hI;obtain ⟨e1,e2,e3,e4,e5,e6,e7,e8,e9,f1,f2,f3,f4,f5,f6,vU,-,-,-⟩:=wV.item;rw [vU] at H;dsimp only [lca,bG] at H;refine fO 2 H ?_;clear H;intro a H;refine aS gB (cs:=[_,_,_,_,_,_,_,_,_,_,_]) H wn rfl rfl (H.hp.bN 1 rfl rfl) rfl ?_;clear H;intro a H;refine gJ nU gB [_,_,_,_,_,_,_,_,_,_,_] [_,_,_,_,_,_,_,_,_,_,_] H wn rfl rfl rfl rfl rfl (by intro i q h;match i,h with|0,h=>exact h|n+1,h=>simp at h) rfl rfl ?_;clear H;intro WY a w SK H;refine lJ (Li:=[_,_,_]) (Lo:=Lo) (news:=C9) nU gB rfl rfl H wn rfl rfl hrw (by rw [vU];rfl) (by rw [vU];exact H.hp.bN 0 rfl rfl) wV.one (by omega) (by omega) rfl ?_;clear H;intro v54 Qe a w TK H;refine aD 6 H ?_;clear H;intro a H;refine aC ?_;refine cB ((k+1,v54,xs++C9,Qe,_)) (by exact (H.dY (Pl:=[_,_,_]) (dM:=[]) [] (by decide) rfl).sub ⟨rfl,rfl,rfl,rfl,aU⟩) ?_ ?_
   ·(try dsimp only);exact ⟨by omega,by rw [wC hk2,hone,iC];exact TK,by rw [wC hk2,hone,kQ];exact (dV.mono fun b o h=>qR b o (mX b o h)).snoc wV (by rw [vU];rfl),fun b o h=>qR b o (mX b o (hgm b o h))⟩
   first|omega|(dsimp only;omega)
  intro p33
  refine ak 1 ?_;intro a H;refine qz (ι:=ay × List aj × GH) (Tc:=[(0,_),(3,_),(5,_),(6,_),(7,_)]) (Lc:=[(_,_)]) (fun gh=>[]) (fun gh=>[(b7,.cells gh.2.1.toArray 68 (0,0))]++Lo) (fun gh=>gh.2.2) (fun gh=>qY (lsB A) (lsB R) l[k]=[gh.1]∧aW gh.2.2 gh.1.dat gh.2.1∧(∀ b o,yN b=some o→gh.2.2 b=some o)) sB ?_ ?_
  ·refine dQ 5 H ?_ ?_ <;> clear H
   ·intro p41
    refine ak 3 ?_;intro a H;refine aS sI (cs:=[.slice aA an ac,.slice rA rn rc]) H wn rfl rfl (fun j v hj=>H.hp.aI (aH mX (aH hgm (hga j v hj)))) rfl ?_;clear H;intro a H;refine s_call agy H wn rfl (aon ih (by omega) _ _ H.ro (hd.mono fun b o h=>mX b o (rT b o h)) l[k].rows _ (hrs.mono mX) (by omega)) rfl ?_;clear H;rintro v45 G45 a w TD J6 H;obtain ⟨A45,n45,c45,rfl⟩:=TD.form;have hn45:=TD.len;rw [bM] at hn45;subst hn45;refine aD 1 H ?_;clear H;intro a H;refine aV Ll 1 (vs:=[_]) _ H wn rfl rfl rfl rfl rfl rfl rfl rfl ?_;clear H;intro w H;dsimp only [List.set,setRow] at H;refine gQ 7 H ?_ ?_ <;> clear H
    ·intro p50
     have hone:qY (lsB A) (lsB R) l[k]=[]:=by rw [hce,ah (by omega),av (by omega),av (by omega)]
     refine ak 5 ?_;intro a H;refine aC ?_;refine cB ((k+1,v,xs,Lo,_)) (by exact (H.dY (Pl:=[_,_]) (dM:=[]) [] (by decide) rfl).sub ⟨rfl,rfl,rfl,rfl,aU⟩) ?_ ?_
     ·(try dsimp only);exact ⟨by omega,by rw [wC hk2,hone,gD];exact hrw,by rw [wC hk2,hone,gD];exact dV.mono fun b o h=>J6 b o (mX b o h),fun b o h=>J6 b o (mX b o (hgm b o h))⟩
     first|omega|(dsimp only;omega)
    intro p50
    intro a H;refine jB ?_;refine ⟨(.mk l[k].kind l[k].code l[k].id l[k].text (aY (lsB A) (lsB R) l[k].head) l[k].flow (jE (lsB A) (lsB R) l[k].rows),[vi l[k].kind,vi l[k].code,vi l[k].id,.string l[k].text,.slice q1 q2 q3,vi (aY (lsB A) (lsB R) l[k].head).marks.ins,vi (aY (lsB A) (lsB R) l[k].head).marks.move,.slice q4 q5 q6,.slice q7 q8 q9,.slice fA fn fc,.slice A45 (jE (lsB A) (lsB R) l[k].rows).length c45],G45),sB,?_⟩;(try dsimp only);exact ⟨by rw [hce,ah (by omega),av (by omega),ah (by omega),han],aW.mkItem (x:=.mk l[k].kind l[k].code l[k].id l[k].text (aY (lsB A) (lsB R) l[k].head) l[k].flow (jE (lsB A) (lsB R) l[k].rows)) (Tm.mono J6) (hfl.mono fun b o h=>J6 b o (mX b o h)) TD,J6⟩
   intro p41
   intro a H;refine jB ?_;refine ⟨(.mk l[k].kind l[k].code l[k].id l[k].text (aY (lsB A) (lsB R) l[k].head) l[k].flow l[k].rows,[vi l[k].kind,vi l[k].code,vi l[k].id,.string l[k].text,.slice q1 q2 q3,vi (aY (lsB A) (lsB R) l[k].head).marks.ins,vi (aY (lsB A) (lsB R) l[k].head).marks.move,.slice q4 q5 q6,.slice q7 q8 q9,.slice fA fn fc,.slice sA sn sc],_),sB,?_⟩;(try dsimp only);exact ⟨by rw [hce,ah (by omega),ah (by omega),han],aW.mkItem (x:=.mk l[k].kind l[k].code l[k].id l[k].text (aY (lsB A) (lsB R) l[k].head) l[k].flow l[k].rows) Tm (hfl.mono mX) (hrs.mono mX),fun _ _ h=>h⟩
  clear H;rintro ⟨y,C9,g9⟩ a w hI H;dsimp only at hI H;obtain ⟨hone,wV,qR⟩:=hI;obtain ⟨e1,e2,e3,e4,e5,e6,e7,e8,e9,f1,f2,f3,f4,f5,f6,vU,-,-,-⟩:=wV.item;rw [vU] at H;dsimp only [lca,bG] at H;refine fO 2 H ?_;clear H;intro a H;refine aS gB (cs:=[_,_,_,_,_,_,_,_,_,_,_]) H wn rfl rfl (H.hp.bN 1 rfl rfl) rfl ?_;clear H;intro a H;refine gJ nU gB [_,_,_,_,_,_,_,_,_,_,_] [_,_,_,_,_,_,_,_,_,_,_] H wn rfl rfl rfl rfl rfl (by intro i q h;match i,h with|0,h=>exact h|n+1,h=>simp at h) rfl rfl ?_;clear H;intro WY a w SK H;refine lJ (Li:=[_,_,_]) (Lo:=Lo) (news:=C9) nU gB rfl rfl H wn rfl rfl hrw (by rw [vU];rfl) (by rw [vU];exact H.hp.bN 0 rfl rfl) wV.one (by omega) (by omega) rfl ?_;clear H;intro v54 Qe a w TK H;refine aD 6 H ?_;clear H;intro a H;refine aC ?_;refine cB ((k+1,v54,xs++C9,Qe,_)) (by exact (H.dY (Pl:=[_,_,_]) (dM:=[]) [] (by decide) rfl).sub ⟨rfl,rfl,rfl,rfl,aU⟩) ?_ ?_
  ·(try dsimp only);exact ⟨by omega,by rw [wC hk2,hone,iC];exact TK,by rw [wC hk2,hone,kQ];exact (dV.mono fun b o h=>qR b o (mX b o h)).snoc wV (by rw [vU];rfl),fun b o h=>qR b o (mX b o (hgm b o h))⟩
  first|omega|(dsimp only;omega)
 intro oJ
 obtain rfl:k=l.length:=by omega
 rw [vE] at hrw dV;refine ak 5 ?_;intro a H;refine bZ ?_;obtain ⟨G',hm,rV,H⟩:=H.mR (Li:=[]) hrw (rows:=(fB (lsB A) (lsB R) l).map ay.dat) (by simp) dV;refine lv H results64 rfl ?_;exact H.rt rV
theorem aaU:∀ n:Nat,n≤536870913→Mq A R (.slice aA an ac) (.slice rA rn rc) n
 | 0,_=>fun _ _ _ _ _ _ _ h=>absurd h (by omega)
 | n+1,hn=>aom (aaU n (by omega)) (by omega)
theorem aaT (G:GH) (w0:World) (hG:Hold G w0) (D:gy) (d:gG) (hR:iG G D d) (hs:ug 536870912 d) (va vr:aj) (hd:Bj G A R va vr) :
  Calls prog 18 #[D.val,.agg #[va,vr]] w0 (bB w0 G fun u G'=>∃ D':gy,u=D'.val∧iG G' D' (kN (lsB A) (lsB R) d)):=by
 obtain ⟨aA,an,ac,rfl⟩:=hd.ha.form;obtain ⟨rA,rn,rc,rfl⟩:=hd.hr.form;obtain ⟨df,dp,dd,dy,dr,d1,d2,d3,d4,ins,mv⟩:=D;have hfl:=hs.fl;have hhd:=hs.hd;obtain ⟨SF,SG,JQ,JR,hRr,hRs⟩:=hR;dsimp only at JQ JR;subst JQ JR;refine eN [(0,_),(1,_)] func18 rfl ntmps18 rfl rfl hG ?_;refine ak 1 ?_;intro a H;refine dP (cs:=[_,_,_,_,_,_,_,_,_,_,_]) H wn rfl rfl rfl ?_;clear H;intro b2 a w hb2 H;refine dP (cs:=[_,_]) H wn rfl rfl rfl ?_;clear H;intro b3 a w hb3 H;refine dz fI H wn rfl ?_;clear H;intro b4 a w hb4 H;refine aD 4 H ?_;clear H;intro a H;refine aS sI (cs:=[_,_]) H wn rfl rfl (H.hp.bN 1 rfl rfl) rfl ?_;clear H;intro a H;refine s_call Rt H wn rfl (aaU 536870913 (bP _) _ _ H.ro hd d.flow _ SF (by omega)) rfl ?_;clear H;rintro v8 G8 a w KC mG H;obtain ⟨fA,fn,fc,rfl⟩:=KC.form;refine aD 1 H ?_;clear H;intro a H;refine aV pK 2 (vs:=[_]) _ H wn rfl rfl rfl rfl rfl rfl rfl rfl ?_;clear H;intro w H;dsimp only [List.set,setRow] at H;refine aD 3 H ?_;clear H;intro a H;refine aS dw (cs:=[_,_,_,_,_]) H wn rfl rfl (H.hp.bN 2 rfl rfl) rfl ?_;clear H;intro a H;refine aS sI (cs:=[_,_]) H wn rfl rfl (H.hp.bN 1 rfl rfl) rfl ?_;clear H;intro a H;refine s_call Ju H wn rfl (KL _ _ H.ro A R aA rA an ac rn rc (hd.ha.mono mG) (hd.hr.mono mG) hd.la hd.lr d.fin _ _ _ (SG.mono mG) (by omega)) rfl ?_;clear H;rintro v14 zU a w Te wR H;obtain ⟨q1,q2,q3,q4,q5,q6,q7,q8,q9,rfl,Tj⟩:=Te.ans;refine aD 1 H ?_;clear H;intro a H;(iterate 2 refine jK H wn rfl rfl rfl ?_;clear H;intro a H);refine aD 1 H ?_;clear H;intro a H;refine aV dw 2 (vs:=[_,_,_,_,_]) _ H wn rfl rfl rfl rfl rfl rfl rfl rfl ?_;clear H;intro w H;dsimp only [List.set,setRow] at H;refine aD 2 H ?_;clear H;intro a H;refine aS fI (cs:=[_,_,_,_,_,_,_,_,_,_,_]) H wn rfl rfl (H.hp.bN 2 rfl rfl) rfl ?_;clear H;intro a H;refine aV fI 0 (vs:=[_,_,_,_,_,_,_,_,_,_,_]) _ H wn rfl rfl rfl rfl rfl rfl rfl rfl ?_;clear H;intro w H;dsimp only [List.set,setRow] at H;refine aC ?_;refine dR ?_;refine bZ ?_;refine (leave1 H results18 (.cons (kF fI (cs:=[_,_,_,_,_,_,_,_,_,_,_]) H rfl rfl (H.hp.bN 0 rfl rfl)) .nil) ?_).1;exact H.rt ⟨⟨(fA,fn,fc),(q1,q2,q3),(q4,q5,q6),(q7,q8,q9),dr,d1,d2,d3,d4,(aY (lsB A) (lsB R) d.fin).marks.ins,(aY (lsB A) (lsB R) d.fin).marks.move⟩,rfl,⟨KC.mono wR,Tj,rfl,rfl,hRr.mono (fun b o h=>wR b o (mG b o h)),hRs.mono fun b o h=>wR b o (mG b o h)⟩⟩
end
section
open Go.RowKit
end
section
open Go.RowKit
end
section
open Go.RowKit
end
section
open Go.RowKit
end
section
open Go.RowKit
end
section
open Go.RowKit
theorem asP (l m:List ay):cu (l++m)=cu l+cu m:=by simp [cu,IC]
end
section
open Go.RowKit
end
section
open Go.RowKit
def akg (t:Int) (a:Nat × ay):Bool:=decide ((a.1:Int)+jl a.2≤t)
def lA (t:Int) (A:List (Nat × ay)):List ay:=(A.filter (akg t)).map (·.2)
end
section
open Go.RowKit
def WG (l:List ay):Prop:=∀ (k:Nat) (h:k+1 < l.length),¬ (l[k].kind=1∧l[k+1].kind=1∧l[k].head=l[k+1].head)
theorem WG.one {l:List ay} (h:l.length≤1):WG l:=fun k hk=>by omega
end
section
open Go.RowKit
end
section
open Go.RowKit
end
section
open Go.RowKit
theorem VQ:∀ {m l:List ay},m.Sublist l→cu m≤cu l
 | _,_,.slnil=>bP _
 | _,_,.cons a h=>by have:=VQ h;simp only [cu,fq,eG] at *;omega
 | _,_,.cons_cons a h=>by have:=VQ h;simp only [cu,fq,eG] at *;omega
end
section
open Go.RowKit
theorem Ry:∀ args w,(callFunc 95 args).run prog w=.ok (.enter 95 args) w:=enters func95 rfl (by kernel_rfl)
theorem ahI:∀ args w,(callFunc 21 args).run prog w=.ok (.enter 21 args) w:=enters func21 rfl (by kernel_rfl)
abbrev Bu (b:Nat) (n:Int):Nat × Obj:=(b,.cells #[vi n] 3 (0,0))
def SmQ (bl:Nat) (left:Int) (z:Nat) (u:aj) (_:GH) (L':OL):Prop:=∃ b lf,u=.bool b∧L'=[Bu bl lf]∧left - (z:Int)≤lf∧lf≤left
def Qj (n:Nat):Prop:=∀ (G:GH) (w0:World) (l:List ay) (v:aj) (Ik left:Int) (bl:Nat),fU G [Bu bl left] w0→au G (.sl 11 (l.map ay.dat)) v→cu l < n→0≤Ik→Ik≤1000→left≤1000→-1000000000000≤left - (cu l:Int) →
 Calls prog 95 #[v,vi Ik,(aG bl 0)] w0 (fJ w0 G [Bu bl left] (SmQ bl left (cu l)))
theorem adu (l m:List aX):gK (l++m)=gK l+gK m:=by simp [gK,IC]
theorem adq (l m:List bC):iK (l++m)=iK l+iK m:=by simp [iK,IC]
theorem asQ {l:List ay} {k:Nat} (h:k < l.length):cu (l.take (k+1))=cu (l.take k)+(1+bY l[k].dat):=by rw [fQ h,asP];simp [cu,eG]
theorem asR {l:List aX} {k:Nat} (h:k < l.length):gK (l.take (k+1))=gK (l.take k)+(1+bY l[k].dat):=by rw [fQ h,adu];simp [gK,eG]
theorem asO {l:List bC} {k:Nat} (h:k < l.length):iK (l.take (k+1))=iK (l.take k)+(1+bY l[k].dat):=by rw [fQ h,adq];simp [iK,eG]
theorem adt (l:List ay) (k:Nat):cu (l.take k)≤cu l:=VQ (List.take_sublist k l)
theorem adw (l:List aX) (k:Nat):gK (l.take k)≤gK l:=by
 have:=adu (l.take k) (l.drop k);rw [List.take_append_drop] at this;omega
theorem ads (l:List bC) (k:Nat):iK (l.take k)≤iK l:=by
 have:=adq (l.take k) (l.drop k);rw [List.take_append_drop] at this;omega
theorem arG {n:Nat} (ih:Qj n) (hn:n≤4294967296):Qj (n+1):=by
 intro G w0 l v Ik left bl hO hv hz hl0 hl1 hf1 hf0;obtain ⟨A,c,rfl,hc1,hc2,hg⟩:=hv.slice;rw [bM] at *;have hll:=FP l;refine jg (N:=133) (T:=[(0,_),(1,_),(2,_)]) func95 rfl ntmps95 rfl rfl hO ?_;refine ak 8 ?_;intro a H;refine eH (ι:=Nat × Int × GH) (Tc:=[(0,_),(1,_),(2,_)]) (Lc:=[]) (fun gh=>[(7,vi gh.1)]) (fun gh=>[Bu bl gh.2.1]) (fun gh=>gh.2.2) (fun gh=>gh.1≤l.length∧left - (cu (l.take gh.1):Int)≤gh.2.1∧gh.2.1≤left∧(∀ b o,G b=some o→gh.2.2 b=some o)) (fun gh=>l.length - gh.1) ((0,left,G)) sB ?_ ?_
 ·exact ⟨by omega,by show left - ((0:Nat):Int)≤left;omega,Int.le_refl _,fun _ _ h=>h⟩
 clear H;rintro ⟨k,lf,g⟩ a w hI H;dsimp only at hI H;obtain ⟨hk,hlo,hhi,hgm⟩:=hI;have hzk:=adt l k;dsimp only [lca,bG] at H;refine dQ 7 H ?_ ?_ <;> clear H
 ·intro oJ
  have hk2:k < l.length:=by omega
  obtain ⟨b,o,pA,pn,pc,dA,dn,dc,yA,yn,yc,fA,fn,fc,rA,rn,rc,rfl,hrow,hhd,hfl,hrw⟩:=Eu hk2 hg;have hrn:=hrw.len;rw [bM] at hrn;subst hrn;have r3:aI g b (o+k*11+3)=some (.string l[k].text):=aH hgm (hrow 3 _ rfl);have r4:aI g b (o+k*11+4+0)=some (.slice pA pn pc):=aH hgm (hrow 4 _ rfl);have r9:aI g b (o+k*11+9)=some (.slice fA fn fc):=aH hgm (hrow 9 _ rfl);have U2:aI g b (o+k*11+10)=some (.slice rA l[k].rows.length rc):=aH hgm (hrow 10 _ rfl);have hzi:=yJ l[k];have hzs:=asQ hk2;have hzt:=adt l (k+1);refine ak 9 ?_;intro a H;refine aV bR 0 (vs:=[_]) _ H wn rfl rfl rfl rfl rfl rfl rfl rfl ?_;clear H;intro w H;dsimp only [List.set,setRow] at H;refine pW 8 25 H ?_ ?_ <;> clear H
  ·intro p25
   refine ak 48 ?_;intro a H;refine lr H results95 rfl ?_;exact H.hp.dJ ⟨_,_,rfl,rfl,by omega,by omega⟩
  intro p25
  refine jV 4 29 ?_ ?_
  ·intro oH
   try have p29:=dT oH
   refine ak 44 ?_;intro a H;refine lr H results95 rfl ?_;exact H.hp.dJ ⟨_,_,rfl,rfl,by omega,by omega⟩
  intro oH
  try have p29:=dF oH
  refine ak 5 ?_;intro a H;refine DT jG H (wg H rfl rfl oH) rfl rfl ?_;clear H;refine lT 3 38 ?_ ?_
  ·intro p38
   refine ak 35 ?_;intro a H;refine lr H results95 rfl ?_;exact H.hp.dJ ⟨_,_,rfl,rfl,by omega,by omega⟩
  intro p38
  refine lT 10 48 ?_ ?_
  ·intro p48
   refine ak 25 ?_;intro a H;refine lr H results95 rfl ?_;exact H.hp.dJ ⟨_,_,rfl,rfl,by omega,by omega⟩
  intro p48
  refine jV 9 57 ?_ ?_
  ·intro h57
   try have p57:=dT h57
   refine ak 16 ?_;intro a H;refine lr H results95 rfl ?_;exact H.hp.dJ ⟨_,_,rfl,rfl,by omega,by omega⟩
  intro h57
  try have p57:=dF h57
  refine ak 6 ?_;intro a H;refine lK _ H (wg H rfl rfl h57) rfl rfl rfl (by omega) (by omega) rfl ?_;clear H;refine ak 1 ?_;intro a H;refine gF Ry (Li:=[]) (L:=[Bu bl _]) H (wg H rfl rfl h57) rfl (ih _ _ l[k].flow _ (Ik - 1) _ bl (Hp.owns (Li:=[]) H.hp) (hfl.mono hgm) (by omega) (by omega) (by omega) (by omega) (by omega)) rfl ?_;clear H;rintro v66 G66 L66 a w ⟨b66,lf66,rfl,rfl,atT,atQ⟩ ZJ H;dsimp only [List.nil_append] at H;replace U2:=aH ZJ U2;have ama:=fun b o h=>ZJ b o (hgm b o h);refine gQ 3 H ?_ ?_ <;> clear H
  ·intro p68
   refine ak 3 ?_;intro a H;refine lr H results95 rfl ?_;exact H.hp.dJ ⟨_,_,rfl,rfl,by omega,by omega⟩
  intro p68
  refine ak 5 ?_;intro a H;refine eH (ι:=Nat × Int × GH) (Tc:=[(0,_),(1,_),(2,_),(7,_)]) (Lc:=[]) (fun gh=>[(8,vi gh.1)]) (fun gh=>[Bu bl gh.2.1]) (fun gh=>gh.2.2) (fun gh=>gh.1≤l[k].rows.length∧lf66 - (gK (l[k].rows.take gh.1):Int)≤gh.2.1∧gh.2.1≤lf66∧(∀ b o,G b=some o→gh.2.2 b=some o)∧aI gh.2.2 b (o+k*11+10)=some (.slice rA l[k].rows.length rc)) (fun gh=>l[k].rows.length - gh.1) ((0,lf66,G66)) sB ?_ ?_
  ·exact ⟨by omega,by show lf66 - ((0:Nat):Int)≤lf66;omega,Int.le_refl _,ama,U2⟩
  clear H;rintro ⟨j,lf2,g2⟩ a w hI H;dsimp only at hI H;obtain ⟨hj,hlo2,hhi2,iV,q10⟩:=hI;have auh:=adw l[k].rows j;dsimp only [lca,bG] at H;refine dQ 11 H ?_ ?_ <;> clear H
  ·intro KP
   have hj2:j < l[k].rows.length:=by omega
   obtain ⟨b2,o2,uA,un,uc,eA,en,ec,zA,zn,zc,cA,cn,cc,rfl,hrow2,Ca,hcl⟩:=KS hj2 (hrw.mono iV).at_;have hcn:=hcl.len;rw [bM] at hcn;subst hcn;have t5:aI g2 b2 (o2+j*6+5)=some (.slice cA l[k].rows[j].cells.length cc):=hrow2 5 _ rfl;have auf:=CK l[k].rows[j];have auj:=asR hj2;have aul:=adw l[k].rows (j+1);refine goB 17 ?_ ?_
   ·intro p89
    refine ak 3 ?_;intro a H;refine lr H results95 rfl ?_;exact H.hp.dJ ⟨_,_,rfl,rfl,by omega,by omega⟩
   intro p89
   refine ak 5 ?_;intro a H;refine eH (ι:=Nat × Int × GH) (Tc:=[(0,_),(1,_),(2,_),(7,_),(8,_)]) (Lc:=[]) (fun gh=>[(9,vi gh.1)]) (fun gh=>[Bu bl gh.2.1]) (fun gh=>gh.2.2) (fun gh=>gh.1≤l[k].rows[j].cells.length∧lf2 - (iK (l[k].rows[j].cells.take gh.1):Int)≤gh.2.1∧gh.2.1≤lf2∧(∀ b o,G b=some o→gh.2.2 b=some o)∧aI gh.2.2 b (o+k*11+10)=some (.slice (some ⟨b2,o2,none⟩) l[k].rows.length rc)∧aI gh.2.2 b2 (o2+j*6+5)=some (.slice cA l[k].rows[j].cells.length cc)∧(∀ b o,g2 b=some o→gh.2.2 b=some o)) (fun gh=>l[k].rows[j].cells.length - gh.1) ((0,lf2,g2)) sB ?_ ?_
   ·exact ⟨by omega,by show lf2 - ((0:Nat):Int)≤lf2;omega,Int.le_refl _,iV,q10,t5,fun _ _ h=>h⟩
   clear H;rintro ⟨m,lf3,g3⟩ a w hI H;dsimp only at hI H;obtain ⟨hm,hlo3,hhi3,vV,s10,s5,Zu⟩:=hI;have aui:=ads l[k].rows[j].cells m;dsimp only [lca,bG] at H;refine dQ 15 H ?_ ?_ <;> clear H
   ·intro aoV
    have hm2:m < l[k].rows[j].cells.length:=by omega
    obtain ⟨b3,o3,x1,x2,x3,x4,x5,x6,x7,x8,x9,gA,gn,gc,rfl,hrow3,hch,hcf⟩:=Jg hm2 (hcl.mono Zu).at_;have u6:aI g3 b3 (o3+m*7+6)=some (.slice gA gn gc):=hrow3 6 _ rfl;have aug:=CJ l[k].rows[j].cells[m];have auk:=asO hm2;have aum:=ads l[k].rows[j].cells (m+1);refine ak 9 ?_;intro a H;refine aV bR 0 (vs:=[_]) _ H wn rfl rfl rfl rfl rfl rfl rfl rfl ?_;clear H;intro w H;dsimp only [List.set,setRow] at H;refine kT 7 113 H ?_ ?_ <;> clear H
    ·intro JC
     try have aoY:=dT JC
     refine ak 24 ?_;intro a H;refine lr H results95 rfl ?_;exact H.hp.dJ ⟨_,_,rfl,rfl,by omega,by omega⟩
    intro JC
    try have aoY:=dF JC
    refine ak 14 ?_;intro a H;refine lK _ H (wg H rfl rfl JC) rfl rfl rfl (by omega) (by omega) rfl ?_;clear H;refine ak 1 ?_;intro a H;refine gF Ry (Li:=[]) (L:=[Bu bl _]) H (wg H rfl rfl JC) rfl (ih _ _ l[k].rows[j].cells[m].flow _ (Ik - 1) _ bl (Hp.owns (Li:=[]) H.hp) hcf (by omega) (by omega) (by omega) (by omega) (by omega)) rfl ?_;clear H;rintro v130 adD atf a w ⟨atl,anU,rfl,rfl,atS,atP⟩ NP H;dsimp only [List.nil_append] at H;refine gQ 3 H ?_ ?_ <;> clear H
    ·intro abw
     refine ak 3 ?_;intro a H;refine lr H results95 rfl ?_;exact H.hp.dJ ⟨_,_,rfl,rfl,by omega,by omega⟩
    intro abw
    refine ak 5 ?_;intro a H;refine aC ?_;refine cB ((m+1,anU,adD)) sB ?_ ?_
    ·(try dsimp only);exact ⟨by omega,by omega,by omega,fun b o h=>NP b o (vV b o h),aH NP s10,aH NP s5,fun b o h=>NP b o (Zu b o h)⟩
    first|omega|(dsimp only;omega)
   intro aoV
   refine ak 5 ?_;intro a H;refine aC ?_;refine cB ((j+1,lf3,g3)) sB ?_ ?_
   ·(try dsimp only);exact ⟨by omega,by omega,by omega,vV,s10⟩
   first|omega|(dsimp only;omega)
  intro KP
  refine ak 5 ?_;intro a H;refine aC ?_;refine cB ((k+1,lf2,g2)) sB ?_ ?_
  ·(try dsimp only);exact ⟨by omega,by omega,by omega,iV⟩
  first|omega|(dsimp only;omega)
 intro oJ
 refine ak 4 ?_;intro a H;refine lr H results95 rfl ?_;exact H.hp.dJ ⟨_,_,rfl,rfl,by omega,by omega⟩
theorem acp:∀ n:Nat,n≤4294967296→Qj n
 | 0,_=>fun _ _ _ _ _ _ _ _ _ hz=>absurd hz (Nat.not_lt_zero _)
 | n+1,h=>arG (acp n (by omega)) (by omega)
theorem arE (G:GH) (w0:World) (hG:Hold G w0) (D:gy) (d:gG) (hR:iG G D d) (hz:xE d) :
  Calls prog 45 #[D.val] w0 (bB w0 G fun u G'=>∃ b,u=.bool b∧(b=true→iO d=0)):=by
 have KF:=hz.fl;refine eN [(0,_)] func45 rfl ntmps45 rfl rfl hG ?_;refine ak 1 ?_;intro a H;refine dP (cs:=[_,_,_,_,_,_,_,_,_,_,_]) H wn rfl rfl rfl ?_;clear H;intro b1 a w hb1 H;refine aD 2 H ?_;clear H;intro a H;obtain ⟨Ga,hma,hb1',H⟩:=H.dZ;have hga:=fun j v hj=>kL hb1' 0 D.cells rfl j v hj;have hgs:=fun j v hj=>kL hb1' 7 [aM D.s1,aM D.s2,aM D.s3,aM D.s4] rfl j v hj
 have hgr:aI Ga b1 6=some (aM D.r):=by unfold aI;rw [hb1'];rfl
 have hgf:aI Ga b1 0=some (aM D.f):=by unfold aI;rw [hb1'];rfl
 replace hR:=hR.mono hma;refine Am ?_;refine dz bR H wn rfl ?_;clear H;intro b3 a w hb3 H;refine aV bR 0 (vs:=[_]) _ H wn rfl rfl rfl rfl rfl rfl rfl rfl ?_;clear H;intro w H;dsimp only [List.set,setRow] at H;refine aD 3 H ?_;clear H;intro a H;refine aS sH (cs:=[aM D.s1,aM D.s2,aM D.s3,aM D.s4]) H wn rfl rfl (fun j v hj=>H.hp.aI (hgs j v hj)) rfl ?_;clear H;intro a H;refine dz sH H wn rfl ?_;clear H;intro b4 a w hb4 H;refine aV sH 0 (vs:=[_,_,_,_]) _ H wn rfl rfl rfl rfl rfl rfl rfl rfl ?_;clear H;intro w H;dsimp only [List.set,setRow] at H;refine pW 7 11 H ?_ ?_ <;> clear H
 ·intro qj
  refine lT 6 17 ?_ ?_
  ·intro jJ
   refine lT 6 23 ?_ ?_
   ·intro AO
    refine lT 6 29 ?_ ?_
    ·intro p29
     refine jV 6 35 ?_ ?_
     ·intro yZ
      try have p35:=dT yZ
      refine ak 2 ?_;intro a H;refine gF Ry (Li:=[_]) (L:=[Bu b3 150]) H (wg H rfl rfl yZ) rfl (acp 4294967296 (bP _) _ _ d.flow _ 12 150 b3 (Hp.owns (Li:=[_]) H.hp) hR.fl (by omega) (by decide) (by decide) (by decide) (by omega)) rfl ?_;clear H;rintro v38 PY L38 a w ⟨b38,lf38,rfl,rfl,-,-⟩ H7 H;refine kT 2 40 H ?_ ?_ <;> clear H
      ·intro tC
       try have p40:=dT tC
       intro a H;refine aS fI (cs:=D.cells) H (wg H rfl rfl tC) rfl rfl (fun j v hj=>H.hp.aI (aH H7 (hga j v hj))) rfl ?_;clear H;intro a H;refine s_call ahI H (wg H rfl rfl tC) rfl (afe _ _ H.ro D d (hR.mono H7) hz) rfl ?_;clear H;rintro v42 P5 a w rfl atU H;refine fH 4 H ?_;exact ⟨_,rfl,fun h=>by first|assumption|(simp_all;done)⟩
      intro tC
      try have p40:=dF tC
      refine aQ 6 ?_;exact ⟨_,rfl,fun h=>by first|assumption|(simp_all;done)⟩
     intro yZ
     try have p35:=dF yZ
     refine aQ 11 ?_;exact ⟨_,rfl,fun h=>by first|assumption|(simp_all;done)⟩
    intro p29
    refine aQ 17 ?_;exact ⟨_,rfl,fun h=>by first|assumption|(simp_all;done)⟩
   intro AO
   refine aQ 23 ?_;exact ⟨_,rfl,fun h=>by first|assumption|(simp_all;done)⟩
  intro jJ
  refine aQ 29 ?_;exact ⟨_,rfl,fun h=>by first|assumption|(simp_all;done)⟩
 intro qj
 refine aQ 35 ?_;exact ⟨_,rfl,fun h=>by first|assumption|(simp_all;done)⟩
end
section
open Go.RowKit
theorem Vp:oO prog 68 [(0,1),(1,1),(2,1),(3,1),(4,5),(9,1),(10,1)] [.int .i64 0,.int .i64 0,.int .i64 0,.string ⟨#[]⟩,.slice none 0 0,.int .i64 0,.int .i64 0,.slice none 0 0,.slice none 0 0,.slice none 0 0,.slice none 0 0]:=⟨by kernel_rfl,by kernel_rfl⟩
theorem arO:oO prog 159 [(0,1),(1,1)] [.int .i64 0,.int .i64 0]:=⟨by kernel_rfl,by kernel_rfl⟩
theorem arM:oO prog 102 [(0,1),(1,1),(2,1)] [.int .i64 0,.string ⟨#[]⟩,.int .i64 0]:=⟨by kernel_rfl,by kernel_rfl⟩
theorem Yk:∀ args w,(callFunc 44 args).run prog w=.ok (.enter 44 args) w:=enters func44 rfl (by kernel_rfl)
theorem agP:∀ args w,(callFunc 14 args).run prog w=.ok (.enter 14 args) w:=enters func14 rfl (by kernel_rfl)
theorem agV:∀ args w,(callFunc 15 args).run prog w=.ok (.enter 15 args) w:=enters func15 rfl (by kernel_rfl)
theorem aiv:∀ args w,(callFunc 45 args).run prog w=.ok (.enter 45 args) w:=enters func45 rfl (by kernel_rfl)
def yI (k:Int) (t:ByteArray) (i:Int) (ds:List fE):ay:=.mk k 0 0 t ⟨[],⟨i,0,ds,[]⟩⟩ [] []
def uD:gG:=⟨[yI 1 ⟨#[97,98]⟩ 0 [],yI 1 ⟨#[99,100]⟩ 3 [],yI 1 ⟨#[101]⟩ 0 [⟨5,0⟩],yI 2 ⟨#[]⟩ 0 []],zQ,[⟨3,⟨#[65,110]⟩,0⟩,⟨5,⟨#[66,111]⟩,0⟩],⟨[],[],[],[]⟩⟩
theorem o24:(nD (kN (fun _=>false) (fun _=>true) uD)).flow.length=2:=by kernel_rfl
theorem aoL:((nD (kN (fun _=>false) (fun _=>true) uD)).flow.map ay.text).head?=some ⟨#[97,98,101]⟩:=by kernel_rfl
theorem aoK:(nD (kN (fun _=>false) (fun _=>true) uD)).revs.length=0:=by kernel_rfl
theorem f24:(nD (kN (fun _=>true) (fun _=>false) uD)).flow.length=2:=by kernel_rfl
theorem ajC:((nD (kN (fun _=>true) (fun _=>false) uD)).flow.map ay.text).head?=some ⟨#[97,98,99,100]⟩:=by kernel_rfl
theorem ajB:(nD (kN (fun _=>true) (fun _=>false) uD)).revs.length=0:=by kernel_rfl
theorem z24:cu uD.flow≤1000:=by decide
theorem c24:iO uD=0:=by kernel_rfl
theorem s24:ug 536870912 uD:=by
 have h:=z24
 have h0:kV zQ≤1000:=by decide
 refine ⟨⟨by omega,by show kV zQ≤_;omega,by decide,fun x hx=>?_,by decide,⟨fun _ h=>(by cases h),by decide,fun _ h=>(by cases h),by decide,fun _ h=>(by cases h),by decide,fun _ h=>(by cases h),fun _ h=>(by cases h),fun _ h=>(by cases h)⟩⟩,by omega,by show kV zQ≤_;omega⟩
 simp only [uD,ko,List.not_mem_nil,or_false] at hx
 rcases hx with rfl|rfl <;> decide
theorem alW {F:List ay} {t:ByteArray} (h:(F.map ay.text).head?=some t) (h0:0 < F.length):F[0].text=t:=by
 cases F with
 | nil=>exact absurd h0 (by decide)
 | cons x F=>simpa using h
theorem Yr (G:GH) (w0:World) (hG:Hold G w0) :
  Calls prog 44 #[] w0 (bB w0 G fun u G'=>∃ D:gy,u=D.val∧iG G' D uD):=by
 refine eN [] func44 rfl ntmps44 rfl rfl hG ?_;refine ak 1 ?_;intro a H;refine dz fI H wn rfl ?_;clear H;intro b0 a w hb0 H;refine aD 2 H ?_;clear H;intro a H;refine iy Vp [_,_,_,_,_,_,_,_,_,_,_] H wn rfl rfl rfl rfl ?_;clear H;intro a H;refine iy Vo [_,_,_,_] H wn rfl rfl rfl rfl ?_;clear H;intro a H;refine iy IB [_,_,_,_,_] H wn rfl rfl rfl rfl ?_;clear H;intro a H;refine iy Vp [_,_,_,_,_,_,_,_,_,_,_] H wn rfl rfl rfl rfl ?_;clear H;intro a H;refine iy arO [_,_] H wn rfl rfl rfl rfl ?_;clear H;intro a H;refine gJ yF oz [_,_] [_,_] H wn rfl rfl rfl rfl rfl (by intro i q h;match i,h with|0,h=>exact h|n+1,h=>simp at h) rfl rfl ?_;clear H;intro b6 a w hb6 H;refine iy Vo [_,_,_,_] H wn rfl rfl rfl rfl ?_;clear H;intro a H;refine iy IB [_,_,_,_,_] H wn rfl rfl rfl rfl ?_;clear H;intro a H;(iterate 2 refine iy Vp [_,_,_,_,_,_,_,_,_,_,_] H wn rfl rfl rfl rfl ?_;clear H;intro a H);refine gJ nU gB [_,_,_,_,_,_,_,_,_,_,_,_,_,_,_,_,_,_,_,_,_,_,_,_,_,_,_,_,_,_,_,_,_,_,_,_,_,_,_,_,_,_,_,_] [_,_,_,_,_,_,_,_,_,_,_,_,_,_,_,_,_,_,_,_,_,_,_,_,_,_,_,_,_,_,_,_,_,_,_,_,_,_,_,_,_,_,_,_] H wn rfl rfl rfl rfl rfl (by intro i q h;match i,h with|0,h=>exact h|1,h=>exact h|2,h=>exact h|3,h=>exact h|n+4,h=>simp at h) rfl rfl ?_;clear H;intro b11 a w EA H;(iterate 2 refine iy arM [_,_,_] H wn rfl rfl rfl rfl ?_;clear H;intro a H);refine gJ sK ow [_,_,_,_,_,_] [_,_,_,_,_,_] H wn rfl rfl rfl rfl rfl (by intro i q h;match i,h with|0,h=>exact h|1,h=>exact h|n+2,h=>simp at h) rfl rfl ?_;clear H;intro b14 a w Ze H;refine iy KZ [_,_,_,_,_,_,_,_,_,_,_] H wn rfl rfl rfl rfl ?_;clear H;intro a H;refine aV fI 3 (vs:=[_,_,_,_,_,_,_,_,_,_,_]) _ H wn rfl rfl rfl rfl rfl rfl rfl rfl ?_;clear H;intro w H;dsimp only [List.set,setRow] at H;refine aC ?_;refine dR ?_;refine bZ ?_;refine (leave1 H results44 (.cons (kF fI (cs:=[_,_,_,_,_,_,_,_,_,_,_]) H rfl rfl (H.hp.bN 3 rfl rfl)) .nil) ?_).1;have H:=H.dY (Pl:=[_,_,_,_]) (dM:=[_,_,_]) [2,1,0] (by decide) rfl;obtain ⟨G1,hm1,SN,H⟩:=H.dZ;obtain ⟨G2,hm2,Aq,H⟩:=H.dZ;obtain ⟨G3,HV,SI,H⟩:=H.dZ;have nl:∀ {sz:Nat},au G2 (.sl sz []) (.slice none 0 0):=fun {sz}=>au.gZ rfl (by decide);have Fg:∀ {sz:Nat},au G3 (.sl sz []) (.slice none 0 0):=fun {sz}=>au.gZ rfl (by decide);have d1:au G2 (.sl 2 ([(⟨5,0⟩:fE)].map fE.dat)) (.slice (some ⟨b6,0,none⟩) 1 1):=au.eX (n:=1) (cap:=1) (hm2 _ _ SN) rfl (bP _) (show 1≤maxLen by decide) rfl (bU.nil.snoc (XL G2 ⟨5,0⟩) rfl);have r1:aW G2 (yI 1 ⟨#[97,98]⟩ 0 []).dat _:=aW.mkItem (x:=yI 1 ⟨#[97,98]⟩ 0 []) ⟨nl,nl,nl⟩ nl nl;have r2:aW G2 (yI 1 ⟨#[99,100]⟩ 3 []).dat _:=aW.mkItem (x:=yI 1 ⟨#[99,100]⟩ 3 []) ⟨nl,nl,nl⟩ nl nl;have r3:aW G2 (yI 1 ⟨#[101]⟩ 0 [⟨5,0⟩]).dat _:=aW.mkItem (x:=yI 1 ⟨#[101]⟩ 0 [⟨5,0⟩]) ⟨nl,d1,nl⟩ nl nl;have r4:aW G2 (yI 2 ⟨#[]⟩ 0 []).dat _:=aW.mkItem (x:=yI 2 ⟨#[]⟩ 0 []) ⟨nl,nl,nl⟩ nl nl;have dV:bU G2 11 (uD.flow.map ay.dat) _:=(((bU.nil.snoc r1 rfl).snoc r2 rfl).snoc r3 rfl).snoc r4 rfl;have hcr:bU G3 3 (uD.revs.map bX.dat) _:=(bU.nil.snoc (KU G3 ⟨3,⟨#[65,110]⟩,0⟩) rfl).snoc (KU G3 ⟨5,⟨#[66,111]⟩,0⟩) rfl;exact H.rt ⟨⟨(some ⟨b11,0,none⟩,4,4),(none,0,0),(none,0,0),(none,0,0),(some ⟨b14,0,none⟩,2,2),(none,0,0),(none,0,0),(none,0,0),(none,0,0),0,0⟩,rfl,⟨(au.eX (n:=4) (cap:=4) Aq rfl (bP _) (show 4≤maxLen by decide) rfl dV).mono HV,⟨Fg,Fg,Fg⟩,rfl,rfl,au.eX (n:=2) (cap:=2) SI rfl (bP _) (show 2≤maxLen by decide) rfl hcr,⟨Fg,Fg,Fg,Fg⟩⟩⟩
theorem XQ {G:GH} {E:gy} {e:gG} {t:ByteArray} (hE:iG G E e) (h2:e.flow.length=2) (ht:(e.flow.map ay.text).head?=some t) (hr:e.revs.length=0) :
  ∃ b o fc rA rc,E.f=(some ⟨b,o,none⟩,2,fc)∧E.r=(rA,0,rc)∧aI G b (o+0*11+3)=some (.string t):=by
 obtain ⟨⟨fA,fn,fc⟩,_,_,_,⟨rA,rn,rc⟩,_,_,_,_,_,_⟩:=E;have hf:=hE.fl;have hv:=hE.rv;dsimp only [aM] at hf hv;have n1:=hf.len;have n2:=hv.len;rw [bM] at n1 n2;obtain ⟨A,c,e4,-,-,hg⟩:=hf.slice;rw [bM] at e4
 injection e4 with e4 e5 e6
 subst e4;obtain ⟨b,o,_,_,_,_,_,_,_,_,_,_,_,_,_,_,_,rfl,hrow,-⟩:=Eu (show 0 < e.flow.length by omega) hg;have h3:=hrow 3 _ rfl;rw [alW ht] at h3;exact ⟨b,o,fc,rA,rc,by rw [n1,h2],by rw [n2,hr],h3⟩
theorem Ul (G:GH) (w0:World) (hG:Hold G w0):Calls prog 12 #[] w0 (bB w0 G fun u G'=>u=.bool true):=by
 refine eN [] func12 rfl ntmps12 rfl rfl hG ?_;intro a H;refine kP H (SQ fun _ K1=>SC (gu K1 rfl (SQ fun _ K2=>SC ?_)));clear H K1;intro a H;refine s_call Yk H wn rfl (Yr _ _ H.ro) rfl ?_;clear H;rintro v3 G3 a w ⟨D3,rfl,hD3⟩ HV H;refine s_call agP H wn rfl (apP _ _ H.ro D3 uD hD3 s24 c24) rfl ?_;clear H;rintro v4 G4 a w ⟨E,rfl,hE⟩ Av H;obtain ⟨b4,o4,fc,rA,rc,e1,e2,zD⟩:=XQ hE o24 aoL aoK;obtain ⟨_,_,_,_,_,_,_,_,_,_,_⟩:=E;dsimp only at e1 e2;subst e1 e2
 simp only [gy.val,gy.cells,aM] at H
 refine dz fI H wn rfl ?_;clear H;intro b1 a w hb1 H;refine aV fI 0 (vs:=[_,_,_,_,_,_,_,_,_,_,_]) _ H wn rfl rfl rfl rfl rfl rfl rfl rfl ?_;clear H;intro w H;dsimp only [List.set,setRow] at H;refine kH H (Kn K2 (SQ fun _ K3=>SC ?_));clear H K2;intro a H;refine s_call Yk H wn rfl (Yr _ _ H.ro) rfl ?_;clear H;rintro v5 G5 a w ⟨D5,rfl,hD5⟩ Dl H;refine s_call agV H wn rfl (apO _ _ H.ro D5 uD hD5 s24 c24) rfl ?_;clear H;rintro v6 G6 a w ⟨E6,rfl,hE6⟩ EL H;obtain ⟨b6,o6,gc,sA,sc,e3,e4,ht6⟩:=XQ hE6 f24 ajC ajB;obtain ⟨_,_,_,_,_,_,_,_,_,_,_⟩:=E6;dsimp only at e3 e4;subst e3 e4
 simp only [gy.val,gy.cells,aM] at H
 replace zD:=aH (fun b o h=>EL b o (Dl b o h)) zD;refine dz fI H wn rfl ?_;clear H;intro b2 a w hb2 H;refine aV fI 0 (vs:=[_,_,_,_,_,_,_,_,_,_,_]) _ H wn rfl rfl rfl rfl rfl rfl rfl rfl ?_;clear H;intro w H;dsimp only [List.set,setRow] at H;refine kH H (Kn K3 (SQ fun _ K4=>SC (Jb Nb pK 1 rfl rfl (Rl nU rfl (Rc rfl (Rm rfl (Sp 11 rfl ?_ ?_))))))) <;> clear H K3
 ·intro h11 a H
  try have qj:=dT h11
  refine kH H (YF Nb h11 rfl (YO pK 1 h11 rfl ?_));clear H;intro a H;refine xq nU gB 0 H (wg H rfl rfl h11) rfl rfl rfl (by decide) rfl ?_;clear H;intro a H;refine kH H (YF GX h11 rfl (YR mg h11 rfl zD ?_));clear H;intro a H;refine AY H (wg H rfl rfl h11) rfl rfl rfl ?_;clear H;intro a H;refine kH H (Pt h11 rfl (Rm rfl (Sp 19 rfl ?_ ?_))) <;> clear H
  ·intro h19 a H
   try have sw:=dT h19
   refine kH H (YF Nb h19 rfl (YO pK 0 h19 rfl (YL nU h19 rfl (YC h19 rfl (Pt h19 rfl (Rm rfl (Sp 25 rfl ?_ ?_))))))) <;> clear H
   ·intro wO a H
    try have p25:=dT wO
    refine kH H (YF Nb wO rfl (YO pK 0 wO rfl ?_));clear H;intro a H;refine xq nU gB 0 H (wg H rfl rfl wO) rfl rfl rfl (by decide) rfl ?_;clear H;intro a H;refine kH H (YF GX wO rfl (YR mg wO rfl ht6 ?_));clear H;intro a H;refine AY H (wg H rfl rfl wO) rfl rfl rfl ?_;clear H;intro a H;refine kH H (Pt wO rfl (Rm rfl (Sp 33 rfl ?_ ?_))) <;> clear H
    ·intro tu a H
     try have p33:=dT tu
     refine kH H (YF RJ tu rfl (YO zO 1 tu rfl (YL sK tu rfl (YF RJ tu rfl (YO zO 0 tu rfl (YL sK tu rfl ?_))))));clear H;intro a H;refine KV _ H (wg H rfl rfl tu) rfl rfl rfl (by omega) (by omega) rfl ?_;clear H;intro a H;refine kH H (YC tu rfl (Pt tu rfl (gu K4 rfl ?_)));clear H K4;intro a H;refine lr H results12 rfl ?_
     first
      | exact H.rt rfl
      | (exfalso;simp_all;done)
      | (exfalso;simp_all;omega)
    intro tu a H
    try have p33:=dF tu
    refine kH H (jR tu rfl (jR tu rfl (nK tu rfl (Pf tu rfl (gu K4 rfl ?_)))));clear H K4;intro a H;refine lr H results12 rfl ?_
    first
     | exact H.rt rfl
     | (exfalso;simp_all;done)
     | (exfalso;simp_all;omega)
   intro wO a H
   try have p25:=dF wO
   refine kH H (jR wO rfl (jR wO rfl (Pf wO rfl (Rm rfl (jR rfl rfl (jR rfl rfl (nK rfl rfl (Pf rfl rfl (gu K4 rfl ?_)))))))));clear H K4;intro a H;refine lr H results12 rfl ?_
   first
    | exact H.rt rfl
    | (exfalso;simp_all;done)
    | (exfalso;simp_all;omega)
  intro h19 a H
  try have sw:=dF h19
  refine kH H (nK h19 rfl (nK h19 rfl (Pf h19 rfl (Rm rfl (jR rfl rfl (jR rfl rfl (Pf rfl rfl (Rm rfl (jR rfl rfl (jR rfl rfl (nK rfl rfl (Pf rfl rfl (gu K4 rfl ?_)))))))))))));clear H K4;intro a H;refine lr H results12 rfl ?_
  first
   | exact H.rt rfl
   | (exfalso;simp_all;done)
   | (exfalso;simp_all;omega)
 intro h11 a H
 try have qj:=dF h11
 refine kH H (jR h11 rfl (jR h11 rfl (Pf h11 rfl (Rm rfl (nK rfl rfl (nK rfl rfl (Pf rfl rfl (Rm rfl (jR rfl rfl (jR rfl rfl (Pf rfl rfl (Rm rfl (jR rfl rfl (jR rfl rfl (nK rfl rfl (Pf rfl rfl (gu K4 rfl ?_)))))))))))))))));clear H K4;intro a H;refine lr H results12 rfl ?_
 first
  | exact H.rt rfl
  | (exfalso;simp_all;done)
  | (exfalso;simp_all;omega)
theorem arF (G:GH) (w0:World) (hG:Hold G w0) (D:gy) (d:gG) (hR:iG G D d) (hz:xE d) (A R:List Int) (va vr:aj) (hd:Bj G A R va vr) :
  Calls prog 13 #[D.val,.agg #[va,vr]] w0 (bB w0 G fun u G'=>∃ b,u=.bool b∧(b=true→iO d=0∧A.length≤300∧R.length≤300)):=by
 obtain ⟨aA,ac,rfl,-,-,-⟩:=hd.ha.slice;obtain ⟨rA,rc,rfl,-,-,-⟩:=hd.hr.slice
 simp only [bM] at *
 refine eN [(0,_),(1,_)] func13 rfl ntmps13 rfl rfl hG ?_;refine ak 1 ?_;intro a H;refine dP (cs:=[_,_,_,_,_,_,_,_,_,_,_]) H wn rfl rfl rfl ?_;clear H;intro b2 a w hb2 H;refine dP (cs:=[_,_]) H wn rfl rfl rfl ?_;clear H;intro b3 a w hb3 H;refine pW 8 9 H ?_ ?_ <;> clear H
 ·intro p9
  refine jV 6 15 ?_ ?_
  ·intro uJ
   try have qX:=dT uJ
   intro a H;refine aS fI (cs:=[_,_,_,_,_,_,_,_,_,_,_]) H (wg H rfl rfl uJ) rfl rfl (H.hp.bN 1 rfl rfl) rfl ?_;clear H;intro a H;refine s_call aiv H (wg H rfl rfl uJ) rfl (arE _ _ H.ro D d hR hz) rfl ?_;clear H;rintro v17 yM a w ⟨b17,rfl,NC⟩ qV H;refine fH 3 H ?_
   first
    | exact ⟨_,rfl,fun h=>⟨NC h,by omega,by omega⟩⟩
    | exact ⟨_,rfl,fun h=>by cases h⟩
  intro uJ
  try have qX:=dF uJ
  refine aQ 5 ?_
  first
   | exact ⟨_,rfl,fun h=>⟨NC h,by omega,by omega⟩⟩
   | exact ⟨_,rfl,fun h=>by cases h⟩
 intro p9
 refine aQ 11 ?_
 first
  | exact ⟨_,rfl,fun h=>⟨NC h,by omega,by omega⟩⟩
  | exact ⟨_,rfl,fun h=>by cases h⟩
end
section
open Go.RowKit
theorem Rp:∀ args w,(callFunc 51 args).run prog w=.ok (.enter 51 args) w:=enters func51 rfl (by kernel_rfl)
theorem ahF:∀ args w,(callFunc 216 args).run prog w=.ok (.enter 216 args) w:=enters func216 rfl (by kernel_rfl)
theorem ahc:∀ args w,(callFunc 166 args).run prog w=.ok (.enter 166 args) w:=enters func166 rfl (by kernel_rfl)
theorem agj:∀ args w,(callFunc 100 args).run prog w=.ok (.enter 100 args) w:=enters func100 rfl (by kernel_rfl)
theorem ahG:∀ args w,(callFunc 217 args).run prog w=.ok (.enter 217 args) w:=enters func217 rfl (by kernel_rfl)
theorem ahd:∀ args w,(callFunc 167 args).run prog w=.ok (.enter 167 args) w:=enters func167 rfl (by kernel_rfl)
theorem agk:∀ args w,(callFunc 101 args).run prog w=.ok (.enter 101 args) w:=enters func101 rfl (by kernel_rfl)
theorem bytes_beq (p q:ByteArray):((p.toList == q.toList)=true)↔p=q:=by
 rw [ByteArray.toList_eq,ByteArray.toList_eq,beq_iff_eq];exact ⟨fun e=>Go.WideShapes.bytes_inj e,fun e=>by rw [e]⟩
theorem ay.eq_iff (a b:ay):((((((a.kind=b.kind∧a.code=b.code)∧a.id=b.id)∧a.text=b.text)∧a.head=b.head)∧a.flow=b.flow)∧a.rows=b.rows)↔a=b:=by
 cases a;cases b
 simp [ay.kind,ay.code,ay.id,ay.text,ay.head,ay.flow,ay.rows,and_assoc]
theorem aX.eq_iff (a b:aX):(a.head=b.head∧a.cells=b.cells)↔a=b:=by
 cases a;cases b
 simp [aX.head,aX.cells]
theorem bC.eq_iff (a b:bC):((a.id=b.id∧a.head=b.head)∧a.flow=b.flow)↔a=b:=by
 cases a;cases b
 simp [bC.id,bC.head,bC.flow,and_assoc]
def zR (fv:aj) (G:GH) (d d':List Dat) (p:Prop):Prop:=∀ (G1:GH) (w1:World) (cs cs':List aj),(∀ b o,G b=some o→G1 b=some o)→Hold G1 w1→aW G1 d cs→aW G1 d' cs' →
 qp prog fv [.agg cs.toArray,.agg cs'.toArray] w1 (bB w1 G1 fun u G'=>∃ b,u=.bool b∧(b=true↔p))
theorem aiW (G:GH) (w0:World) (hG:Hold G w0) (A B:List ay) (v u fv:aj) (hv:au G (.sl 11 (A.map ay.dat)) v) (hu:au G (.sl 11 (B.map ay.dat)) u) (hf:∀ (i:Nat) (h1:i < A.length) (h2:i < B.length),zR fv G A[i].dat B[i].dat (A[i]=B[i])) :
  Calls prog 100 #[v,u,fv] w0 (bB w0 G fun r G'=>∃ b,r=.bool b∧(b=true↔A=B)):=by
 obtain ⟨vA,vc,rfl,hc1,hc2,hg⟩:=hv.slice;obtain ⟨uA,uc,rfl,hd1,hd2,hh⟩:=hu.slice;have hml:maxLen=9223372036854775807:=rfl;(iterate 2 rw [bM] at *);refine eN [(0,_),(1,_),(2,_)] func100 rfl ntmps100 rfl rfl hG ?_;refine goB 11 ?_ ?_
 ·intro jP
  refine aQ 3 ?_;exact ⟨false,rfl,by simp only [rD,false_iff];exact fun e=>absurd (aB List.length e) (by omega)⟩
 intro jP
 refine ak 8 ?_;intro a H;refine eH (ι:=Nat × GH) (Tc:=[(1,_),(2,_),(15,_),(16,_)]) (Lc:=[]) (fun gh=>[(17,vi gh.1)]) (fun gh=>[]) (fun gh=>gh.2) (fun gh=>gh.1≤A.length∧A.take gh.1=B.take gh.1∧(∀ b o,G b=some o→gh.2 b=some o)) (fun gh=>A.length - gh.1) ((0,G)) sB ?_ ?_
 ·exact ⟨by omega,rfl,fun _ _ h=>h⟩
 clear H;rintro ⟨k,g⟩ a w hI H;dsimp only at hI H;obtain ⟨hk,hsame,hgm⟩:=hI;dsimp only [lca,bG] at H;refine dQ 4 H ?_ ?_ <;> clear H
 ·intro qJ
  have hk2:k < A.length:=by omega
  have hk3:k < B.length:=by omega
  obtain ⟨b1,o1,cs1,rfl,zl,mH,hr1⟩:=hg k A[k].dat (by simp [hk2]);obtain ⟨pA,pn,pc,dA,dn,dc,yA,yn,yc,fA,fn,fc,rA,rn,rc,rfl,-⟩:=hr1.item;obtain ⟨b2,o2,cs2,rfl,zm,hrow2,hr2⟩:=hh k B[k].dat (by simp [hk3]);obtain ⟨Ir,KR,pc2,GA,Js,GI,LP,LU,LQ,GQ,Hf,GR,rA2,rn2,rc2,rfl,-⟩:=hr2.item;refine ak 6 ?_;intro a H;refine aS gB (cs:=_) H wn rfl rfl (fun j v hj=>H.hp.aI (aH hgm (mH j v hj))) rfl ?_;clear H;intro a H;refine dz gB H wn rfl ?_;clear H;intro b8 a w Ar H;refine aD 1 H ?_;clear H;intro a H;refine aV gB 0 (vs:=[_,_,_,_,_,_,_,_,_,_,_]) _ H wn rfl rfl rfl rfl rfl rfl rfl rfl ?_;clear H;intro w H;dsimp only [List.set,setRow] at H;refine aD 5 H ?_;clear H;intro a H;refine aS gB (cs:=_) H wn rfl rfl (fun j v hj=>H.hp.aI (aH hgm (hrow2 j v hj))) rfl ?_;clear H;intro a H;refine dz gB H wn rfl ?_;clear H;intro b9 a w rQ H;refine aV gB 0 (vs:=[_,_,_,_,_,_,_,_,_,_,_]) _ H wn rfl rfl rfl rfl rfl rfl rfl rfl ?_;clear H;intro w H;dsimp only [List.set,setRow] at H;refine aD 3 H ?_;clear H;intro a H;refine aS gB (cs:=[_,_,_,_,_,_,_,_,_,_,_]) H wn rfl rfl (H.hp.bN 1 rfl rfl) rfl ?_;clear H;intro a H;refine aS gB (cs:=[_,_,_,_,_,_,_,_,_,_,_]) H wn rfl rfl (H.hp.bN 0 rfl rfl) rfl ?_;clear H;intro a H;refine ji H wn rfl rfl (hf k hk2 hk3 _ _ _ _ hgm H.ro (hr1.mono hgm) (hr2.mono hgm)) rfl ?_;clear H;rintro v29 xG a w ⟨ME,rfl,vQ⟩ xS H;refine iU 2 H ?_ ?_ <;> clear H
  ·intro nN
   refine aQ 3 ?_;exact ⟨false,rfl,by simp only [rD,false_iff];rintro rfl;exact absurd (vQ.2 rfl) (by simpa using nN)⟩
  intro nN
  try have p30:=dF nN
  refine ak 4 ?_;intro a H;refine aC ?_;refine cB ((k+1,xG)) (by exact (H.dY (Pl:=[_,_]) (dM:=[]) [] (by decide) rfl).sub ⟨rfl,rfl,rfl,rfl,rfl,aU⟩) ?_ ?_
  ·(try dsimp only);exact ⟨by omega,by rw [fQ hk2,fQ hk3,hsame,vQ.1 (by simpa using nN)],fun b o h=>xS b o (hgm b o h)⟩
  first|omega|(dsimp only;omega)
 intro qJ
 refine aQ 4 ?_;exact ⟨true,rfl,by rw [fK (by omega),fK (by omega)] at hsame;simpa using hsame⟩
theorem aiX (G:GH) (w0:World) (hG:Hold G w0) (A B:List aX) (v u fv:aj) (hv:au G (.sl 6 (A.map aX.dat)) v) (hu:au G (.sl 6 (B.map aX.dat)) u) (hf:∀ (i:Nat) (h1:i < A.length) (h2:i < B.length),zR fv G A[i].dat B[i].dat (A[i]=B[i])) :
  Calls prog 166 #[v,u,fv] w0 (bB w0 G fun r G'=>∃ b,r=.bool b∧(b=true↔A=B)):=by
 obtain ⟨vA,vc,rfl,hc1,hc2,hg⟩:=hv.slice;obtain ⟨uA,uc,rfl,hd1,hd2,hh⟩:=hu.slice;have hml:maxLen=9223372036854775807:=rfl;(iterate 2 rw [bM] at *);refine eN [(0,_),(1,_),(2,_)] func166 rfl ntmps166 rfl rfl hG ?_;refine goB 11 ?_ ?_
 ·intro jP
  refine aQ 3 ?_;exact ⟨false,rfl,by simp only [rD,false_iff];exact fun e=>absurd (aB List.length e) (by omega)⟩
 intro jP
 refine ak 8 ?_;intro a H;refine eH (ι:=Nat × GH) (Tc:=[(1,_),(2,_),(15,_),(16,_)]) (Lc:=[]) (fun gh=>[(17,vi gh.1)]) (fun gh=>[]) (fun gh=>gh.2) (fun gh=>gh.1≤A.length∧A.take gh.1=B.take gh.1∧(∀ b o,G b=some o→gh.2 b=some o)) (fun gh=>A.length - gh.1) ((0,G)) sB ?_ ?_
 ·exact ⟨by omega,rfl,fun _ _ h=>h⟩
 clear H;rintro ⟨k,g⟩ a w hI H;dsimp only at hI H;obtain ⟨hk,hsame,hgm⟩:=hI;dsimp only [lca,bG] at H;refine dQ 4 H ?_ ?_ <;> clear H
 ·intro qJ
  have hk2:k < A.length:=by omega
  have hk3:k < B.length:=by omega
  obtain ⟨b1,o1,cs1,rfl,zl,mH,hr1⟩:=hg k A[k].dat (by simp [hk2]);obtain ⟨pA,pn,pc,dA,dn,dc,yA,yn,yc,fA,fn,fc,rfl,-⟩:=hr1.row;obtain ⟨b2,o2,cs2,rfl,zm,hrow2,hr2⟩:=hh k B[k].dat (by simp [hk3]);obtain ⟨Ir,KR,pc2,GA,Js,GI,LP,LU,LQ,GQ,Hf,GR,rfl,-⟩:=hr2.row;refine ak 6 ?_;intro a H;refine aS jL (cs:=_) H wn rfl rfl (fun j v hj=>H.hp.aI (aH hgm (mH j v hj))) rfl ?_;clear H;intro a H;refine dz jL H wn rfl ?_;clear H;intro b8 a w Ar H;refine aD 1 H ?_;clear H;intro a H;refine aV jL 0 (vs:=[_,_,_,_,_,_]) _ H wn rfl rfl rfl rfl rfl rfl rfl rfl ?_;clear H;intro w H;dsimp only [List.set,setRow] at H;refine aD 5 H ?_;clear H;intro a H;refine aS jL (cs:=_) H wn rfl rfl (fun j v hj=>H.hp.aI (aH hgm (hrow2 j v hj))) rfl ?_;clear H;intro a H;refine dz jL H wn rfl ?_;clear H;intro b9 a w rQ H;refine aV jL 0 (vs:=[_,_,_,_,_,_]) _ H wn rfl rfl rfl rfl rfl rfl rfl rfl ?_;clear H;intro w H;dsimp only [List.set,setRow] at H;refine aD 3 H ?_;clear H;intro a H;refine aS jL (cs:=[_,_,_,_,_,_]) H wn rfl rfl (H.hp.bN 1 rfl rfl) rfl ?_;clear H;intro a H;refine aS jL (cs:=[_,_,_,_,_,_]) H wn rfl rfl (H.hp.bN 0 rfl rfl) rfl ?_;clear H;intro a H;refine ji H wn rfl rfl (hf k hk2 hk3 _ _ _ _ hgm H.ro (hr1.mono hgm) (hr2.mono hgm)) rfl ?_;clear H;rintro v29 xG a w ⟨ME,rfl,vQ⟩ xS H;refine iU 2 H ?_ ?_ <;> clear H
  ·intro nN
   refine aQ 3 ?_;exact ⟨false,rfl,by simp only [rD,false_iff];rintro rfl;exact absurd (vQ.2 rfl) (by simpa using nN)⟩
  intro nN
  try have p30:=dF nN
  refine ak 4 ?_;intro a H;refine aC ?_;refine cB ((k+1,xG)) (by exact (H.dY (Pl:=[_,_]) (dM:=[]) [] (by decide) rfl).sub ⟨rfl,rfl,rfl,rfl,rfl,aU⟩) ?_ ?_
  ·(try dsimp only);exact ⟨by omega,by rw [fQ hk2,fQ hk3,hsame,vQ.1 (by simpa using nN)],fun b o h=>xS b o (hgm b o h)⟩
  first|omega|(dsimp only;omega)
 intro qJ
 refine aQ 4 ?_;exact ⟨true,rfl,by rw [fK (by omega),fK (by omega)] at hsame;simpa using hsame⟩
theorem aiV (G:GH) (w0:World) (hG:Hold G w0) (A B:List bC) (v u fv:aj) (hv:au G (.sl 7 (A.map bC.dat)) v) (hu:au G (.sl 7 (B.map bC.dat)) u) (hf:∀ (i:Nat) (h1:i < A.length) (h2:i < B.length),zR fv G A[i].dat B[i].dat (A[i]=B[i])) :
  Calls prog 216 #[v,u,fv] w0 (bB w0 G fun r G'=>∃ b,r=.bool b∧(b=true↔A=B)):=by
 obtain ⟨vA,vc,rfl,hc1,hc2,hg⟩:=hv.slice;obtain ⟨uA,uc,rfl,hd1,hd2,hh⟩:=hu.slice;have hml:maxLen=9223372036854775807:=rfl;(iterate 2 rw [bM] at *);refine eN [(0,_),(1,_),(2,_)] func216 rfl ntmps216 rfl rfl hG ?_;refine goB 11 ?_ ?_
 ·intro jP
  refine aQ 3 ?_;exact ⟨false,rfl,by simp only [rD,false_iff];exact fun e=>absurd (aB List.length e) (by omega)⟩
 intro jP
 refine ak 8 ?_;intro a H;refine eH (ι:=Nat × GH) (Tc:=[(1,_),(2,_),(15,_),(16,_)]) (Lc:=[]) (fun gh=>[(17,vi gh.1)]) (fun gh=>[]) (fun gh=>gh.2) (fun gh=>gh.1≤A.length∧A.take gh.1=B.take gh.1∧(∀ b o,G b=some o→gh.2 b=some o)) (fun gh=>A.length - gh.1) ((0,G)) sB ?_ ?_
 ·exact ⟨by omega,rfl,fun _ _ h=>h⟩
 clear H;rintro ⟨k,g⟩ a w hI H;dsimp only at hI H;obtain ⟨hk,hsame,hgm⟩:=hI;dsimp only [lca,bG] at H;refine dQ 4 H ?_ ?_ <;> clear H
 ·intro qJ
  have hk2:k < A.length:=by omega
  have hk3:k < B.length:=by omega
  obtain ⟨b1,o1,cs1,rfl,zl,mH,hr1⟩:=hg k A[k].dat (by simp [hk2]);obtain ⟨pA,pn,pc,dA,dn,dc,yA,yn,yc,fA,fn,fc,rfl,-⟩:=hr1.cell;obtain ⟨b2,o2,cs2,rfl,zm,hrow2,hr2⟩:=hh k B[k].dat (by simp [hk3]);obtain ⟨Ir,KR,pc2,GA,Js,GI,LP,LU,LQ,GQ,Hf,GR,rfl,-⟩:=hr2.cell;refine ak 6 ?_;intro a H;refine aS jQ (cs:=_) H wn rfl rfl (fun j v hj=>H.hp.aI (aH hgm (mH j v hj))) rfl ?_;clear H;intro a H;refine dz jQ H wn rfl ?_;clear H;intro b8 a w Ar H;refine aD 1 H ?_;clear H;intro a H;refine aV jQ 0 (vs:=[_,_,_,_,_,_,_]) _ H wn rfl rfl rfl rfl rfl rfl rfl rfl ?_;clear H;intro w H;dsimp only [List.set,setRow] at H;refine aD 5 H ?_;clear H;intro a H;refine aS jQ (cs:=_) H wn rfl rfl (fun j v hj=>H.hp.aI (aH hgm (hrow2 j v hj))) rfl ?_;clear H;intro a H;refine dz jQ H wn rfl ?_;clear H;intro b9 a w rQ H;refine aV jQ 0 (vs:=[_,_,_,_,_,_,_]) _ H wn rfl rfl rfl rfl rfl rfl rfl rfl ?_;clear H;intro w H;dsimp only [List.set,setRow] at H;refine aD 3 H ?_;clear H;intro a H;refine aS jQ (cs:=[_,_,_,_,_,_,_]) H wn rfl rfl (H.hp.bN 1 rfl rfl) rfl ?_;clear H;intro a H;refine aS jQ (cs:=[_,_,_,_,_,_,_]) H wn rfl rfl (H.hp.bN 0 rfl rfl) rfl ?_;clear H;intro a H;refine ji H wn rfl rfl (hf k hk2 hk3 _ _ _ _ hgm H.ro (hr1.mono hgm) (hr2.mono hgm)) rfl ?_;clear H;rintro v29 xG a w ⟨ME,rfl,vQ⟩ xS H;refine iU 2 H ?_ ?_ <;> clear H
  ·intro nN
   refine aQ 3 ?_;exact ⟨false,rfl,by simp only [rD,false_iff];rintro rfl;exact absurd (vQ.2 rfl) (by simpa using nN)⟩
  intro nN
  try have p30:=dF nN
  refine ak 4 ?_;intro a H;refine aC ?_;refine cB ((k+1,xG)) (by exact (H.dY (Pl:=[_,_]) (dM:=[]) [] (by decide) rfl).sub ⟨rfl,rfl,rfl,rfl,rfl,aU⟩) ?_ ?_
  ·(try dsimp only);exact ⟨by omega,by rw [fQ hk2,fQ hk3,hsame,vQ.1 (by simpa using nN)],fun b o h=>xS b o (hgm b o h)⟩
  first|omega|(dsimp only;omega)
 intro qJ
 refine aQ 4 ?_;exact ⟨true,rfl,by rw [fK (by omega),fK (by omega)] at hsame;simpa using hsame⟩
def Eb (n:Nat):Prop:=∀ (G:GH) (w0:World),Hold G w0→∀ (A B:List ay) (v u:aj),au G (.sl 11 (A.map ay.dat)) v→au G (.sl 11 (B.map ay.dat)) u→cu A < n →
 Calls prog 51 #[v,u] w0 (bB w0 G fun r G'=>∃ b,r=.bool b∧(b=true↔A=B))
theorem aiT {n:Nat} (ih:Eb n) (G:GH) (x y:bC) (hz:cu x.flow < n):zR (.func (.func 217) #[] #[]) G x.dat y.dat (x=y):=by
 intro G1 w0 cs cs' hm hG h1 h2;refine iN (caps:=[]) ahG ?_;obtain ⟨pA,pn,pc,dA,dn,dc,yA,yn,yc,fA,fn,fc,rfl,J3,hf1⟩:=h1.cell;obtain ⟨Ir,KR,pc2,GA,Js,GI,LP,LU,LQ,GQ,Hf,GR,rfl,EH,hf2⟩:=h2.cell;have he:=bC.eq_iff x y;refine eN [(0,_),(1,_)] func217 rfl ntmps217 rfl rfl hG ?_;refine ak 1 ?_;intro a H;refine dP (cs:=[_,_,_,_,_,_,_]) H wn rfl rfl rfl ?_;clear H;intro b2 a w hb2 H;refine dP (cs:=[_,_,_,_,_,_,_]) H wn rfl rfl rfl ?_;clear H;intro b3 a w hb3 H;refine kT 9 10 H ?_ ?_ <;> clear H
 ·intro h10
  try have iD:=dT h10
  refine ak 1 ?_;intro a H;refine aS dw (cs:=[_,_,_,_,_]) H (wg H rfl rfl h10) rfl rfl (H.hp.bN 1 rfl rfl) rfl ?_;clear H;refine ak 1 ?_;intro a H;refine aS dw (cs:=[_,_,_,_,_]) H (wg H rfl rfl h10) rfl rfl (H.hp.bN 0 rfl rfl) rfl ?_;clear H;intro a H;refine s_call GK H (wg H rfl rfl h10) rfl (GN _ _ H.ro x.head y.head _ _ _ _ _ _ J3 EH) rfl ?_;clear H;rintro vH GH a w rfl Aw H;refine kT 2 17 H ?_ ?_ <;> clear H
  ·intro jr
   try have jJ:=dT jr
   refine ak 4 ?_;intro a H;refine s_call Rp H (wg H rfl rfl jr) rfl (ih _ _ H.ro x.flow y.flow _ _ (hf1.mono Aw) (hf2.mono Aw) hz) rfl ?_;clear H;rintro vF GF a w ⟨bF,rfl,Zj⟩ NS H;refine fH 3 H ?_;exact ⟨_,rfl,by rw [← he];simp_all⟩
  intro jr
  try have jJ:=dF jr
  refine aQ 8 ?_;exact ⟨_,rfl,by rw [← he];simp_all⟩
 intro h10
 try have iD:=dF h10
 refine aQ 15 ?_;exact ⟨_,rfl,by rw [← he];simp_all⟩
theorem ajd {n:Nat} (ih:Eb n) (hn:n≤4294967297) (G:GH) (x y:aX) (hz:iK x.cells < n):zR (.func (.func 167) #[] #[]) G x.dat y.dat (x=y):=by
 intro G1 w0 cs cs' hm hG h1 h2;refine iN (caps:=[]) ahd ?_;obtain ⟨pA,pn,pc,dA,dn,dc,yA,yn,yc,fA,fn,fc,rfl,J3,hf1⟩:=h1.row;obtain ⟨Ir,KR,pc2,GA,Js,GI,LP,LU,LQ,GQ,Hf,GR,rfl,EH,hf2⟩:=h2.row;have he:=aX.eq_iff x y;refine eN [(0,_),(1,_)] func167 rfl ntmps167 rfl rfl hG ?_;refine ak 1 ?_;intro a H;refine dP (cs:=[_,_,_,_,_,_]) H wn rfl rfl rfl ?_;clear H;intro b2 a w hb2 H;refine dP (cs:=[_,_,_,_,_,_]) H wn rfl rfl rfl ?_;clear H;intro b3 a w hb3 H;refine aD 4 H ?_;clear H;intro a H;refine aS dw (cs:=[_,_,_,_,_]) H wn rfl rfl (H.hp.bN 1 rfl rfl) rfl ?_;clear H;refine ak 1 ?_;intro a H;refine aS dw (cs:=[_,_,_,_,_]) H wn rfl rfl (H.hp.bN 0 rfl rfl) rfl ?_;clear H;intro a H;refine s_call GK H wn rfl (GN _ _ H.ro x.head y.head _ _ _ _ _ _ J3 EH) rfl ?_;clear H;rintro vH GH a w rfl Aw H;refine kT 1 10 H ?_ ?_ <;> clear H
 ·intro h10
  try have iD:=dT h10
  refine ak 4 ?_;intro a H;refine s_call ahF H (wg H rfl rfl h10) rfl (aiV _ _ H.ro x.cells y.cells _ _ _ (hf1.mono Aw) (hf2.mono Aw) (fun i h1 h2=>aiT ih _ _ _ (by have:=LV h1;omega))) rfl ?_;clear H;rintro vF GF a w ⟨bF,rfl,Zj⟩ NS H;refine fH 3 H ?_;exact ⟨_,rfl,by rw [← he];simp_all⟩
 intro h10
 try have iD:=dF h10
 refine aQ 8 ?_;exact ⟨_,rfl,by rw [← he];simp_all⟩
theorem aiY {n:Nat} (ih:Eb n) (hn:n≤4294967297) (G:GH) (w0:World) (hG:Hold G w0) (x y:ay) (cs cs':List aj) (h1:aW G x.dat cs) (h2:aW G y.dat cs') (hz:cu x.flow < n) (hr:gK x.rows < n) :
  Calls prog 101 #[.agg cs.toArray,.agg cs'.toArray] w0 (bB w0 G fun u G'=>∃ b,u=.bool b∧(b=true↔x=y)):=by
 obtain ⟨pA,pn,pc,dA,dn,dc,yA,yn,yc,fA,fn,fc,rA,rn,rc,rfl,J3,hf1,hw1⟩:=h1.item;obtain ⟨Ir,KR,pc2,GA,Js,GI,LP,LU,LQ,GQ,Hf,GR,rA2,rn2,rc2,rfl,EH,hf2,hw2⟩:=h2.item;have he:=ay.eq_iff x y;have hb:=bytes_beq x.text y.text;refine eN [(0,_),(1,_)] func101 rfl ntmps101 rfl rfl hG ?_;refine ak 1 ?_;intro a H;refine dP (cs:=[_,_,_,_,_,_,_,_,_,_,_]) H wn rfl rfl rfl ?_;clear H;intro b2 a w hb2 H;refine dP (cs:=[_,_,_,_,_,_,_,_,_,_,_]) H wn rfl rfl rfl ?_;clear H;intro b3 a w hb3 H;refine pW 9 10 H ?_ ?_ <;> clear H
 ·intro iD
  refine lT 7 17 ?_ ?_
  ·intro jJ
   refine jV 7 24 ?_ ?_
   ·intro fu
    try have jq:=dT fu
    refine ak 4 ?_;intro a H;refine AY H (wg H rfl rfl fu) rfl rfl rfl ?_;clear H;refine jV 2 31 ?_ ?_
    ·intro h31
     try have p31:=dT h31
     refine ak 1 ?_;intro a H;refine aS dw (cs:=[_,_,_,_,_]) H (wg H rfl rfl h31) rfl rfl (H.hp.bN 1 rfl rfl) rfl ?_;clear H;refine ak 1 ?_;intro a H;refine aS dw (cs:=[_,_,_,_,_]) H (wg H rfl rfl h31) rfl rfl (H.hp.bN 0 rfl rfl) rfl ?_;clear H;intro a H;refine s_call GK H (wg H rfl rfl h31) rfl (GN _ _ H.ro x.head y.head _ _ _ _ _ _ J3 EH) rfl ?_;clear H;rintro vH GH a w rfl Aw H;refine kT 2 38 H ?_ ?_ <;> clear H
     ·intro mF
      try have p38:=dT mF
      refine ak 4 ?_;intro a H;refine s_call Rp H (wg H rfl rfl mF) rfl (ih _ _ H.ro x.flow y.flow _ _ (hf1.mono Aw) (hf2.mono Aw) hz) rfl ?_;clear H;rintro vF GF a w ⟨bF,rfl,Zj⟩ NS H;refine kT 2 45 H ?_ ?_ <;> clear H
      ·intro h45
       try have p45:=dT h45
       refine ak 4 ?_;intro a H;refine s_call ahc H (wg H rfl rfl h45) rfl (aiX _ _ H.ro x.rows y.rows _ _ _ ((hw1.mono Aw).mono NS) ((hw2.mono Aw).mono NS) (fun i h1 h2=>ajd ih hn _ _ _ (by have:=LW h1;omega))) rfl ?_;clear H;rintro vW GW a w ⟨bW,rfl,hbW⟩ hmW H;refine fH 3 H ?_;exact ⟨_,rfl,by rw [← he];simp_all⟩
      intro h45
      try have p45:=dF h45
      refine aQ 8 ?_;exact ⟨_,rfl,by rw [← he];simp_all⟩
     intro mF
     try have p38:=dF mF
     refine aQ 15 ?_;exact ⟨_,rfl,by rw [← he];simp_all⟩
    intro h31
    try have p31:=dF h31
    refine aQ 22 ?_;exact ⟨_,rfl,by rw [← he];simp_all⟩
   intro fu
   try have jq:=dF fu
   refine aQ 29 ?_;exact ⟨_,rfl,by rw [← he];simp_all⟩
  intro jJ
  refine aQ 36 ?_;exact ⟨_,rfl,by rw [← he];simp_all⟩
 intro iD
 refine aQ 43 ?_;exact ⟨_,rfl,by rw [← he];simp_all⟩
theorem aiZ {n:Nat} (ih:Eb n) (hn:n≤4294967297) (G:GH) (x y:ay) (hz:cu x.flow < n) (hr:gK x.rows < n):zR (.func (.func 101) #[] #[]) G x.dat y.dat (x=y):=by
 intro G1 w0 cs cs' hm hG h1 h2;exact iN (caps:=[]) agk (aiY ih hn G1 w0 hG x y cs cs' h1 h2 hz hr)
theorem ajg {n:Nat} (ih:Eb n) (hn:n≤4294967297):Eb (n+1):=by
 intro G w0 hG A B v u hv hu hz;refine eN [(0,_),(1,_)] func51 rfl ntmps51 rfl rfl hG ?_;refine ak 6 ?_;intro a H;refine s_call agj H wn rfl (aiW _ _ H.ro A B _ _ _ hv hu (fun i h1 h2=>aiZ ih hn _ _ _ (by have:=IU h1;omega) (by have:=IU h1;omega))) rfl ?_;clear H;rintro v7 G7 a w ⟨b7,rfl,uM⟩ wS H;refine fH 2 H ?_;exact ⟨_,rfl,uM⟩
theorem Yp:∀ n:Nat,n≤4294967298→Eb n
 | 0,_=>fun _ _ _ _ _ _ _ _ _ h=>absurd h (by omega)
 | n+1,hn=>ajg (Yp n (by omega)) (by omega)
theorem aju (G:GH) (w0:World) (hG:Hold G w0) (A B:List ay) (v u:aj) (hv:au G (.sl 11 (A.map ay.dat)) v) (hu:au G (.sl 11 (B.map ay.dat)) u) (hz:cu A≤4294967296) :
  Calls prog 51 #[v,u] w0 (bB w0 G fun r G'=>∃ b,r=.bool b∧(b=true↔A=B)):=Yp 4294967298 (by omega) G w0 hG A B v u hv hu (by omega)
end
section
open Go.RowKit
def jD (xs:Array aj) (o:Nat × Nat):Option (Int × Int × List UInt8):=match o.2 with
 | 0=>(kM xs o.1).map fun n=>(n,0,[])
 | 1=>match xs[o.1]? with|some (.string s)=>some (0,0,s.toList)|_=>none
 | 2=>match kM xs o.1,kM xs (o.1+1) with|some a,some b=>some (a,b,[])|_,_=>none
 | 3=>match xs[o.1]? with|some (.bool b)=>some (if b=true then 1 else 0,0,[])|_=>none
 | _=>none
def abn (P:Program) (t:TypeId):Bool:=!P.stoodInHeld t && decide ((P.fieldsOf t).toList.map (·.offset)=[0,1]) && ((P.fieldsOf t).toList.all fun f=>decide (f.name ≠ "_") && P.plainKey f.type && Ug (P.underlying f.type)) && decide (P.cellsOf t=2) && (P.info? t).isSome
def xW (P:Program) (t:TypeId):Nat:=match P.underlying t with|some (.int .i64)=>0|some .string=>1|some (.struct _)=>2|some .bool=>3|_=>4
def UM (P:Program) (t:TypeId):Bool:=match xW P t with|0=>P.plainKey t|1=>P.plainKey t|2=>abn P t|3=>P.plainKey t|_=>false
structure IW (P:Program) (t:TypeId) (wZ:List (Nat × Nat)):Prop where
 und:P.underlying t=some (.struct (P.fieldsOf t))
 held:P.stoodInHeld t=false
 guard:P.eqGuardType P.depth t=false
 Dg:(P.fieldsOf t).toList.map (fun f=>(f.offset,xW P f.type))=wZ
 ok:(P.fieldsOf t).toList.all (fun f=>decide (f.name ≠ "_") && UM P f.type)=true
theorem asl {P:Program} {t:TypeId} {fs:Array Field} (h:P.underlying t=some (.struct fs)):P.underlying t=some (.struct (P.fieldsOf t)):=by
 rw [h]
 simp [Program.fieldsOf,h]
theorem abY {P:Program} (w:World) {t:TypeId} {fs:Array Field} (hu:P.underlying t=some (.struct fs)) {i:TypeInfo} (hi:P.info? t=some i) (hc:P.cellsOf t=2) (xs:Array aj) (off:Nat):(part t xs off).run P w=.ok (.agg (xs.extract off (off+2))) w:=by
 unfold part
 simp [isAgg,dU,run_underlying hu,run_sizeOf w hi,hc]
theorem Nh {xs:Array aj} {o:Nat} {n:Int} (h:kM xs o=some n):xs[o]?=some (.int .i64 n):=by
 unfold kM at h
 split at h
 ·rename_i hx;cases h;exact hx
 ·cases h
theorem Y3 {xs:Array aj} {off:Nat} {a b:Int} (h1:kM xs off=some a) (h2:kM xs (off+1)=some b):kM (xs.extract off (off+2)) 0=some a∧kM (xs.extract off (off+2)) 1=some b:=by
 have e1:=Nh h1
 have e2:=Nh h2
 have hl:off+1 < xs.size:=(Array.getElem?_eq_some_iff.1 e2).1
 constructor
 ·unfold kM
  rw [Array.getElem?_extract,av (by omega),wG,e1]
 ·unfold kM
  rw [Array.getElem?_extract,av (by omega),e2]
theorem abV {P:Program} {w:World} {d:Nat} {xs ys:Array aj}:∀ fs:List Field,fs.all (fun f=>decide (f.name ≠ "_") && UM P f.type)=true →
  (fs.map (fun f=>(f.offset,xW P f.type))).all (fun o=>(jD xs o).isSome && (jD ys o).isSome)=true→(Op.eqFields (d+2) xs ys fs).run P w=.ok ((fs.map (fun f=>(f.offset,xW P f.type))).all fun o=>jD xs o == jD ys o) w
 | [],_,_=>by simp [Op.eqFields]
 | f :: fs,h1,h2=>by
  simp only [List.all_cons,mq,lQ,fq] at h1 h2
  obtain ⟨⟨hn,hk⟩,h1⟩:=h1
  obtain ⟨⟨hx,hy⟩,h2⟩:=h2
  have ih:=abV (w:=w) (d:=d) fs (by simpa using h1) h2
  have fin:∀ (x y:aj) (r:Bool),(part f.type xs f.offset).run P w=.ok x w→(part f.type ys f.offset).run P w=.ok y w→(Op.equalIn (d+2) f.type x y).run P w=.ok r w→(jD xs (f.offset,xW P f.type) == jD ys (f.offset,xW P f.type))=r →
    (Op.eqFields (d+2) xs ys (f :: fs)).run P w=.ok (((f :: fs).map (fun f=>(f.offset,xW P f.type))).all fun o=>jD xs o == jD ys o) w:=by
   intro x y r p1 p2 p3 p4
   simp only [Op.eqFields,hn,ne_eq,not_false_eq_true,if_true,dU,p1,p2,lN,p3,fq,List.all_cons,p4]
   cases r with
   | true=>simp [ih,List.all_map]
   | false=>simp
  unfold UM at hk
  rcases hkd:xW P f.type with _|_|_|_|n
  ·rw [hkd] at hk hx hy
   have hu:P.underlying f.type=some (.int .i64):=by unfold xW at hkd;split at hkd <;> first|assumption|cases hkd
   obtain ⟨m,hm⟩:∃ m,kM xs f.offset=some m:=by cases h:kM xs f.offset with|some m=>exact ⟨m,rfl⟩|none=>simp [jD,h] at hx
   obtain ⟨m2,hm2⟩:∃ m,kM ys f.offset=some m:=by cases h:kM ys f.offset with|some m=>exact ⟨m,rfl⟩|none=>simp [jD,h] at hy
   refine fin _ _ _ (run_part_plain w hk (Nh hm)) (run_part_plain w hk (Nh hm2)) (run_equalIn_int w (d+1) f.type .i64 .i64 m m2 hu) ?_
   rw [hkd,mE]
   simp [jD,hm,hm2]
  ·rw [hkd] at hk hx hy
   have hu:P.underlying f.type=some .string:=by unfold xW at hkd;split at hkd <;> first|assumption|cases hkd
   obtain ⟨m,hm⟩:∃ m,xs[f.offset]?=some (.string m):=by
    simp only [jD] at hx
    split at hx
    ·rename_i s hs;exact ⟨s,hs⟩
    ·cases hx
   obtain ⟨m2,hm2⟩:∃ m,ys[f.offset]?=some (.string m):=by
    simp only [jD] at hy
    split at hy
    ·rename_i s hs;exact ⟨s,hs⟩
    ·cases hy
   refine fin _ _ _ (run_part_plain w hk hm) (run_part_plain w hk hm2) (run_equalIn_string w (d+1) f.type m m2 hu) ?_
   rw [hkd,mE]
   simp [jD,hm,hm2]
  ·rw [hkd] at hk hx hy
   obtain ⟨gs,hu⟩:∃ gs,P.underlying f.type=some (.struct gs):=by
    unfold xW at hkd
    split at hkd
    ·cases hkd
    ·cases hkd
    ·rename_i gs hg;exact ⟨gs,hg⟩
    ·cases hkd
    ·cases hkd
   simp only [abn,mq,uw,lQ] at hk
   obtain ⟨⟨⟨⟨k1,k2⟩,k3⟩,k4⟩,k5⟩:=hk
   obtain ⟨inf,Zx⟩:=Option.isSome_iff_exists.1 k5
   obtain ⟨a,b,ha,hb⟩:∃ a b,kM xs f.offset=some a∧kM xs (f.offset+1)=some b:=by
    simp only [jD] at hx
    split at hx
    ·rename_i a b h1 h2;exact ⟨a,b,h1,h2⟩
    ·cases hx
   obtain ⟨a',b',ha',hb'⟩:∃ a b,kM ys f.offset=some a∧kM ys (f.offset+1)=some b:=by
    simp only [jD] at hy
    split at hy
    ·rename_i a b h1 h2;exact ⟨a,b,h1,h2⟩
    ·cases hy
   obtain ⟨e1,e2⟩:=Y3 ha hb
   obtain ⟨e3,e4⟩:=Y3 ha' hb'
   have hq:=abU (P:=P) (w:=w) (d:=d) (xs:=xs.extract f.offset (f.offset+2)) (ys:=ys.extract f.offset (f.offset+2)) _ (by simpa only [jS,mq,lQ] using k3) (by rw [k2];simp [e1,e2,e3,e4])
   rw [k2] at hq
   refine fin _ _ _ (abY w hu Zx k4 xs f.offset) (abY w hu Zx k4 ys f.offset) ((run_equalIn_struct w (d+1) f.type _ _ (asl hu) k1).trans hq) ?_
   rw [hkd,mE]
   simp [jD,ha,hb,ha',hb',e1,e2,e3,e4]
  ·rw [hkd] at hk hx hy
   have hu:P.underlying f.type=some .bool:=by unfold xW at hkd;split at hkd <;> first|assumption|cases hkd
   obtain ⟨m,hm⟩:∃ m,xs[f.offset]?=some (.bool m):=by
    simp only [jD] at hx
    split at hx
    ·rename_i s hs;exact ⟨s,hs⟩
    ·cases hx
   obtain ⟨m2,hm2⟩:∃ m,ys[f.offset]?=some (.bool m):=by
    simp only [jD] at hy
    split at hy
    ·rename_i s hs;exact ⟨s,hs⟩
    ·cases hy
   refine fin _ _ _ (run_part_plain w hk hm) (run_part_plain w hk hm2) (run_equalIn_bool' w (d+1) f.type m m2 hu) ?_
   rw [hkd,mE]
   cases m <;> cases m2 <;> simp [jD,hm,hm2]
  ·rw [hkd] at hk;cases hk
section
variable {N:Nat} {D:List Deferred} {w0:World} {F:Nat→Prop} {G0 G:GH} {L:List (Nat × Obj)} {T:List (Nat × aj)}
variable {r:Option Nat} {P:Program} {ops:Array Oper} {Q:Exit→Act→World→Prop} {rest:List Oper} {a:Act} {w:World}
variable {d:Nat} {ty:TypeId} {pos:String} {aO:Array Edge} {g:Option (Nat × Bool)}
theorem O4 {t yt:TypeId} {wZ:List (Nat × Nat)} (he:IW P t wZ) {x y:Operand} {xs ys:Array aj} (H:St N D w0 F G0 G L T a w) (hw:Region.wanted ⟨some d,.binOp .neq t x y yt,ty,pos,aO,g⟩ (yielded ops a.tmps)=true) (hx:ev T x=some (.agg xs)) (hy:ev T y=some (.agg ys))
  (hi:wZ.all (fun o=>(jD xs o).isSome && (jD ys o).isSome)=true) (hd:Nat.blt d N=true)
  (k:∀ a',St N D w0 F G0 G L ((d,.bool (!(wZ.all fun o=>jD xs o == jD ys o))) :: T) a' w→WL r P ops Q rest a' w):WL r P ops Q (⟨some d,.binOp .neq t x y yt,ty,pos,aO,g⟩ :: rest) a w:=by
 have h1:=abV (P:=P) (w:=w) (d:=9997) (xs:=xs) (ys:=ys) _ he.ok (by rw [he.Dg];exact hi)
 rw [he.Dg] at h1
 refine eZ (v:=.bool (!(wZ.all fun o=>jD xs o == jD ys o))) (w':=w) hw rfl ?_ (k _ (H.put hd _ H.hp))
 simp only [execOp,H.ev hx,H.ev hy,dU,run_eqGuard_agg w .neq t x y xs ys he.guard,lN,run_neq_struct,run_equalIn_struct w 9999 t xs ys he.und he.held,h1]
 rfl
end
end
section
open Go.RowKit
theorem aiz:∀ args w,(callFunc 50 args).run prog w=.ok (.enter 50 args) w:=enters func50 rfl (by kernel_rfl)
theorem agq:∀ args w,(callFunc 107 args).run prog w=.ok (.enter 107 args) w:=enters func107 rfl (by kernel_rfl)
theorem agn:∀ args w,(callFunc 105 args).run prog w=.ok (.enter 105 args) w:=enters func105 rfl (by kernel_rfl)
theorem aiy:∀ args w,(callFunc 49 args).run prog w=.ok (.enter 49 args) w:=enters func49 rfl (by kernel_rfl)
theorem agp:∀ args w,(callFunc 106 args).run prog w=.ok (.enter 106 args) w:=enters func106 rfl (by kernel_rfl)
theorem MH (p q:ByteArray):p.toList=q.toList↔p=q:=by
 rw [← bytes_beq,beq_iff_eq]
theorem bX.eq_iff (a b:bX):(a.id=b.id∧a.author=b.author∧a.time=b.time)↔a=b:=by cases a;cases b;simp
theorem iZ.eq_iff (a b:iZ):(a.fmt=b.fmt∧a.start=b.start∧a.xu=b.xu∧a.restart=b.restart)↔a=b:=by cases a;cases b;simp
theorem fD.eq_iff (a b:fD):(a.id=b.id∧a.parent=b.parent∧a.author=b.author∧a.time=b.time∧a.text=b.text∧a.done=b.done)↔a=b:=by cases a;cases b;simp
theorem iB.eq_iff (a b:iB):(a.name=b.name∧a.value=b.value)↔a=b:=by cases a;cases b;simp
theorem eD.eq_iff (a b:eD):(a.id=b.id∧a.levels=b.levels)↔a=b:=by cases a;cases b;simp
theorem bS.eq_iff (a b:bS):(((((a.id=b.id∧a.kind=b.kind)∧a.name=b.name)∧a.base=b.base)∧a.next=b.next)∧a.props=b.props)↔a=b:=by cases a;cases b;simp [and_assoc]
instance:DecidableEq bX:=fun a b=>decidable_of_iff _ (bX.eq_iff a b)
instance:DecidableEq iZ:=fun a b=>decidable_of_iff _ (iZ.eq_iff a b)
instance:DecidableEq fD:=fun a b=>decidable_of_iff _ (fD.eq_iff a b)
instance:DecidableEq iB:=fun a b=>decidable_of_iff _ (iB.eq_iff a b)
theorem ajl:IW prog 102 [(0,0),(1,1),(2,0)]:=⟨by kernel_rfl,by kernel_rfl,by kernel_rfl,by kernel_rfl,by kernel_rfl⟩
theorem ajk:IW prog 96 [(0,0),(1,0),(2,1),(3,0)]:=⟨by kernel_rfl,by kernel_rfl,by kernel_rfl,by kernel_rfl,by kernel_rfl⟩
theorem ajj:IW prog 107 [(0,0),(1,0),(2,1),(3,0),(4,1),(5,3)]:=⟨by kernel_rfl,by kernel_rfl,by kernel_rfl,by kernel_rfl,by kernel_rfl⟩
theorem ajm:IW prog 110 [(0,1),(1,1)]:=⟨by kernel_rfl,by kernel_rfl,by kernel_rfl,by kernel_rfl,by kernel_rfl⟩
theorem aqS (a b:bX):([(0,0),(1,1),(2,0)].all fun o=>jD (bX.cells a).toArray o == jD (bX.cells b).toArray o)=decide (a=b):=by
 rw [mE,decide_eq_true_iff,← bX.eq_iff]
 simp [jD,kM,MH]
theorem aqR (a b:iZ):([(0,0),(1,0),(2,1),(3,0)].all fun o=>jD (iZ.cells a).toArray o == jD (iZ.cells b).toArray o)=decide (a=b):=by
 rw [mE,decide_eq_true_iff,← iZ.eq_iff]
 simp [jD,kM,MH]
theorem aqQ (a b:fD):([(0,0),(1,0),(2,1),(3,0),(4,1),(5,3)].all fun o=>jD (fD.cells a).toArray o == jD (fD.cells b).toArray o)=decide (a=b):=by
 rw [mE,decide_eq_true_iff,← fD.eq_iff]
 cases ha:a.done <;> cases hb:b.done <;> simp [jD,kM,MH,ha,hb]
theorem aqT (a b:iB):([(0,1),(1,1)].all fun o=>jD (iB.cells a).toArray o == jD (iB.cells b).toArray o)=decide (a=b):=by
 rw [mE,decide_eq_true_iff,← iB.eq_iff]
 simp [jD,kM,MH]
theorem ajs (G:GH) (w0:World) (hG:Hold G w0) (A B:List bX) (v u:aj) (hv:au G (.sl 3 (A.map bX.dat)) v) (hu:au G (.sl 3 (B.map bX.dat)) u) :
  Calls prog 53 #[v,u] w0 (bB w0 G fun r G'=>r=.bool (decide (A=B))):=by
 obtain ⟨vA,vc,rfl,hc1,hc2,hg⟩:=hv.slice;obtain ⟨uA,uc,rfl,hd1,hd2,hh⟩:=hu.slice;have hml:maxLen=9223372036854775807:=rfl;(iterate 2 rw [bM] at *);refine eN [(0,_),(1,_)] func53 rfl ntmps53 rfl rfl hG ?_;refine goB 11 ?_ ?_
 ·intro iD
  refine aQ 3 ?_;exact (dD (jc fun e=>absurd (aB List.length e) (by omega)).symm)
 intro iD
 refine ak 8 ?_;intro a H;refine eH (ι:=Nat × GH) (Tc:=[(0,_),(1,_),(12,_)]) (Lc:=[]) (fun gh=>[(13,vi gh.1)]) (fun gh=>[]) (fun gh=>gh.2) (fun gh=>gh.1≤A.length∧A.take gh.1=B.take gh.1∧(∀ b o,G b=some o→gh.2 b=some o)) (fun gh=>A.length - gh.1) ((0,G)) sB ?_ ?_
 ·exact ⟨by omega,rfl,fun _ _ h=>h⟩
 clear H;rintro ⟨k,g⟩ a w hI H;dsimp only at hI H;obtain ⟨hk,hsame,hgm⟩:=hI;dsimp only [lca,bG] at H;refine dQ 4 H ?_ ?_ <;> clear H
 ·intro jP
  have hk2:k < A.length:=by omega
  have hk3:k < B.length:=by omega
  obtain ⟨b1,o1,cs1,rfl,zl,mH,hr1⟩:=hg k A[k].dat (by simp [hk2]);obtain rfl:=KT hr1;obtain ⟨b2,o2,cs2,rfl,zm,hrow2,hr2⟩:=hh k B[k].dat (by simp [hk3]);obtain rfl:=KT hr2;refine ak 8 ?_;intro a H;refine dI hmx [[],[],[0,1],[0,1,2],[],[],[4,5],[4,5,6],(ra 0 8)] [] (by kernel_rfl) [_,_,_,.agg (bX.cells A[k]).toArray,_,_,_,.agg (bX.cells B[k]).toArray,.bool (!decide (A[k]=B[k]))] H (aF (Z0 rfl (Rm rfl)) (Z0 rfl (Rm rfl)) (Z2 0 16 1 17 rfl (Ri sK ow rfl rfl)) ?_ (aF (Z0 rfl (Rm rfl)) (Z0 rfl (Rm rfl)) (Z2 4 20 5 21 rfl (Ri sK ow rfl rfl)) ?_ (bH ?_ cZ))) ?_
  ·refine eu 2 18 rfl rfl fun _ a w G1 hG HT H fin=>?_;refine aS ow (cs:=bX.cells A[k]) H wn rfl rfl (fun j v hj=>H.hp.aI (aH hG (aH hgm (mH j v hj)))) rfl ?_;clear H;intro a H;exact fin H iJ rfl
  ·refine eu 6 22 rfl rfl fun _ a w G1 hG HT H fin=>?_;refine aS ow (cs:=bX.cells B[k]) H wn rfl rfl (fun j v hj=>H.hp.aI (aH hG (aH hgm (hrow2 j v hj)))) rfl ?_;clear H;intro a H;exact fin H iJ rfl
  ·refine dH 3 19 7 23 rfl rfl fun _ a w G1 hG HT H fin=>?_;refine O4 ajl H wn rfl rfl rfl rfl ?_;clear H;intro a H;exact fin H iJ (aB (fun b=>Value.bool !b) (aqS A[k] B[k]))
  clear H;intro a w G gI H hv;have H:=H.aN (hv 8 24 rfl rfl) rfl;clear hv;refine t0 1 H ?_;clear H;refine goC 0 ?_ ?_
  ·intro fu
   refine aQ 3 ?_;exact (dD (jc fun e=>absurd fu (by subst e;simp)).symm)
  intro fu
  try have jq:=dF fu
  have hsm:A[k]=B[k]:=by simpa using fu
  refine ak 4 ?_;intro a H;refine aC ?_;refine cB ((k+1,G)) sB ?_ ?_
  ·(try dsimp only);exact ⟨by omega,by rw [fQ hk2,fQ hk3,hsame,hsm],fun b o h=>gI b o (hgm b o h)⟩
  first|omega|(dsimp only;omega)
 intro jP
 refine aQ 4 ?_;exact (dD (iT (by rw [fK (by omega),fK (by omega)] at hsame;exact hsame)).symm)
theorem ajr (G:GH) (w0:World) (hG:Hold G w0) (A B:List iZ) (v u:aj) (hv:au G (.sl 4 (A.map iZ.dat)) v) (hu:au G (.sl 4 (B.map iZ.dat)) u) :
  Calls prog 50 #[v,u] w0 (bB w0 G fun r G'=>r=.bool (decide (A=B))):=by
 obtain ⟨vA,vc,rfl,hc1,hc2,hg⟩:=hv.slice;obtain ⟨uA,uc,rfl,hd1,hd2,hh⟩:=hu.slice;have hml:maxLen=9223372036854775807:=rfl;(iterate 2 rw [bM] at *);refine eN [(0,_),(1,_)] func50 rfl ntmps50 rfl rfl hG ?_;refine goB 11 ?_ ?_
 ·intro iD
  refine aQ 3 ?_;exact (dD (jc fun e=>absurd (aB List.length e) (by omega)).symm)
 intro iD
 refine ak 8 ?_;intro a H;refine eH (ι:=Nat × GH) (Tc:=[(0,_),(1,_),(12,_)]) (Lc:=[]) (fun gh=>[(13,vi gh.1)]) (fun gh=>[]) (fun gh=>gh.2) (fun gh=>gh.1≤A.length∧A.take gh.1=B.take gh.1∧(∀ b o,G b=some o→gh.2 b=some o)) (fun gh=>A.length - gh.1) ((0,G)) sB ?_ ?_
 ·exact ⟨by omega,rfl,fun _ _ h=>h⟩
 clear H;rintro ⟨k,g⟩ a w hI H;dsimp only at hI H;obtain ⟨hk,hsame,hgm⟩:=hI;dsimp only [lca,bG] at H;refine dQ 4 H ?_ ?_ <;> clear H
 ·intro jP
  have hk2:k < A.length:=by omega
  have hk3:k < B.length:=by omega
  obtain ⟨b1,o1,cs1,rfl,zl,mH,hr1⟩:=hg k A[k].dat (by simp [hk2]);obtain rfl:=Uv hr1;obtain ⟨b2,o2,cs2,rfl,zm,hrow2,hr2⟩:=hh k B[k].dat (by simp [hk3]);obtain rfl:=Uv hr2;refine ak 8 ?_;intro a H;refine dI hmx [[],[],[0,1],[0,1,2],[],[],[4,5],[4,5,6],(ra 0 8)] [] (by kernel_rfl) [_,_,_,.agg (iZ.cells A[k]).toArray,_,_,_,.agg (iZ.cells B[k]).toArray,.bool (!decide (A[k]=B[k]))] H (aF (Z0 rfl (Rm rfl)) (Z0 rfl (Rm rfl)) (Z2 0 16 1 17 rfl (Ri FM Bc rfl rfl)) ?_ (aF (Z0 rfl (Rm rfl)) (Z0 rfl (Rm rfl)) (Z2 4 20 5 21 rfl (Ri FM Bc rfl rfl)) ?_ (bH ?_ cZ))) ?_
  ·refine eu 2 18 rfl rfl fun _ a w G1 hG HT H fin=>?_;refine aS Bc (cs:=iZ.cells A[k]) H wn rfl rfl (fun j v hj=>H.hp.aI (aH hG (aH hgm (mH j v hj)))) rfl ?_;clear H;intro a H;exact fin H iJ rfl
  ·refine eu 6 22 rfl rfl fun _ a w G1 hG HT H fin=>?_;refine aS Bc (cs:=iZ.cells B[k]) H wn rfl rfl (fun j v hj=>H.hp.aI (aH hG (aH hgm (hrow2 j v hj)))) rfl ?_;clear H;intro a H;exact fin H iJ rfl
  ·refine dH 3 19 7 23 rfl rfl fun _ a w G1 hG HT H fin=>?_;refine O4 ajk H wn rfl rfl rfl rfl ?_;clear H;intro a H;exact fin H iJ (aB (fun b=>Value.bool !b) (aqR A[k] B[k]))
  clear H;intro a w G gI H hv;have H:=H.aN (hv 8 24 rfl rfl) rfl;clear hv;refine t0 1 H ?_;clear H;refine goC 0 ?_ ?_
  ·intro fu
   refine aQ 3 ?_;exact (dD (jc fun e=>absurd fu (by subst e;simp)).symm)
  intro fu
  try have jq:=dF fu
  have hsm:A[k]=B[k]:=by simpa using fu
  refine ak 4 ?_;intro a H;refine aC ?_;refine cB ((k+1,G)) sB ?_ ?_
  ·(try dsimp only);exact ⟨by omega,by rw [fQ hk2,fQ hk3,hsame,hsm],fun b o h=>gI b o (hgm b o h)⟩
  first|omega|(dsimp only;omega)
 intro jP
 refine aQ 4 ?_;exact (dD (iT (by rw [fK (by omega),fK (by omega)] at hsame;exact hsame)).symm)
theorem ajq (G:GH) (w0:World) (hG:Hold G w0) (A B:List fD) (v u:aj) (hv:au G (.sl 6 (A.map fD.dat)) v) (hu:au G (.sl 6 (B.map fD.dat)) u) :
  Calls prog 56 #[v,u] w0 (bB w0 G fun r G'=>r=.bool (decide (A=B))):=by
 obtain ⟨vA,vc,rfl,hc1,hc2,hg⟩:=hv.slice;obtain ⟨uA,uc,rfl,hd1,hd2,hh⟩:=hu.slice;have hml:maxLen=9223372036854775807:=rfl;(iterate 2 rw [bM] at *);refine eN [(0,_),(1,_)] func56 rfl ntmps56 rfl rfl hG ?_;refine goB 11 ?_ ?_
 ·intro iD
  refine aQ 3 ?_;exact (dD (jc fun e=>absurd (aB List.length e) (by omega)).symm)
 intro iD
 refine ak 8 ?_;intro a H;refine eH (ι:=Nat × GH) (Tc:=[(0,_),(1,_),(12,_)]) (Lc:=[]) (fun gh=>[(13,vi gh.1)]) (fun gh=>[]) (fun gh=>gh.2) (fun gh=>gh.1≤A.length∧A.take gh.1=B.take gh.1∧(∀ b o,G b=some o→gh.2 b=some o)) (fun gh=>A.length - gh.1) ((0,G)) sB ?_ ?_
 ·exact ⟨by omega,rfl,fun _ _ h=>h⟩
 clear H;rintro ⟨k,g⟩ a w hI H;dsimp only at hI H;obtain ⟨hk,hsame,hgm⟩:=hI;dsimp only [lca,bG] at H;refine dQ 4 H ?_ ?_ <;> clear H
 ·intro jP
  have hk2:k < A.length:=by omega
  have hk3:k < B.length:=by omega
  obtain ⟨b1,o1,cs1,rfl,zl,mH,hr1⟩:=hg k A[k].dat (by simp [hk2]);obtain rfl:=MR hr1;obtain ⟨b2,o2,cs2,rfl,zm,hrow2,hr2⟩:=hh k B[k].dat (by simp [hk3]);obtain rfl:=MR hr2;refine ak 8 ?_;intro a H;refine dI hmx [[],[],[0,1],[0,1,2],[],[],[4,5],[4,5,6],(ra 0 8)] [] (by kernel_rfl) [_,_,_,.agg (fD.cells A[k]).toArray,_,_,_,.agg (fD.cells B[k]).toArray,.bool (!decide (A[k]=B[k]))] H (aF (Z0 rfl (Rm rfl)) (Z0 rfl (Rm rfl)) (Z2 0 16 1 17 rfl (Ri Bf yD rfl rfl)) ?_ (aF (Z0 rfl (Rm rfl)) (Z0 rfl (Rm rfl)) (Z2 4 20 5 21 rfl (Ri Bf yD rfl rfl)) ?_ (bH ?_ cZ))) ?_
  ·refine eu 2 18 rfl rfl fun _ a w G1 hG HT H fin=>?_;refine aS yD (cs:=fD.cells A[k]) H wn rfl rfl (fun j v hj=>H.hp.aI (aH hG (aH hgm (mH j v hj)))) rfl ?_;clear H;intro a H;exact fin H iJ rfl
  ·refine eu 6 22 rfl rfl fun _ a w G1 hG HT H fin=>?_;refine aS yD (cs:=fD.cells B[k]) H wn rfl rfl (fun j v hj=>H.hp.aI (aH hG (aH hgm (hrow2 j v hj)))) rfl ?_;clear H;intro a H;exact fin H iJ rfl
  ·refine dH 3 19 7 23 rfl rfl fun _ a w G1 hG HT H fin=>?_;refine O4 ajj H wn rfl rfl rfl rfl ?_;clear H;intro a H;exact fin H iJ (aB (fun b=>Value.bool !b) (aqQ A[k] B[k]))
  clear H;intro a w G gI H hv;have H:=H.aN (hv 8 24 rfl rfl) rfl;clear hv;refine t0 1 H ?_;clear H;refine goC 0 ?_ ?_
  ·intro fu
   refine aQ 3 ?_;exact (dD (jc fun e=>absurd fu (by subst e;simp)).symm)
  intro fu
  try have jq:=dF fu
  have hsm:A[k]=B[k]:=by simpa using fu
  refine ak 4 ?_;intro a H;refine aC ?_;refine cB ((k+1,G)) sB ?_ ?_
  ·(try dsimp only);exact ⟨by omega,by rw [fQ hk2,fQ hk3,hsame,hsm],fun b o h=>gI b o (hgm b o h)⟩
  first|omega|(dsimp only;omega)
 intro jP
 refine aQ 4 ?_;exact (dD (iT (by rw [fK (by omega),fK (by omega)] at hsame;exact hsame)).symm)
theorem ajt (G:GH) (w0:World) (hG:Hold G w0) (A B:List iB) (v u:aj) (hv:au G (.sl 2 (A.map iB.dat)) v) (hu:au G (.sl 2 (B.map iB.dat)) u) :
  Calls prog 57 #[v,u] w0 (bB w0 G fun r G'=>r=.bool (decide (A=B))):=by
 obtain ⟨vA,vc,rfl,hc1,hc2,hg⟩:=hv.slice;obtain ⟨uA,uc,rfl,hd1,hd2,hh⟩:=hu.slice;have hml:maxLen=9223372036854775807:=rfl;(iterate 2 rw [bM] at *);refine eN [(0,_),(1,_)] func57 rfl ntmps57 rfl rfl hG ?_;refine goB 11 ?_ ?_
 ·intro iD
  refine aQ 3 ?_;exact (dD (jc fun e=>absurd (aB List.length e) (by omega)).symm)
 intro iD
 refine ak 8 ?_;intro a H;refine eH (ι:=Nat × GH) (Tc:=[(0,_),(1,_),(12,_)]) (Lc:=[]) (fun gh=>[(13,vi gh.1)]) (fun gh=>[]) (fun gh=>gh.2) (fun gh=>gh.1≤A.length∧A.take gh.1=B.take gh.1∧(∀ b o,G b=some o→gh.2 b=some o)) (fun gh=>A.length - gh.1) ((0,G)) sB ?_ ?_
 ·exact ⟨by omega,rfl,fun _ _ h=>h⟩
 clear H;rintro ⟨k,g⟩ a w hI H;dsimp only at hI H;obtain ⟨hk,hsame,hgm⟩:=hI;dsimp only [lca,bG] at H;refine dQ 4 H ?_ ?_ <;> clear H
 ·intro jP
  have hk2:k < A.length:=by omega
  have hk3:k < B.length:=by omega
  obtain ⟨b1,o1,cs1,rfl,zl,mH,hr1⟩:=hg k A[k].dat (by simp [hk2]);obtain rfl:=VH hr1;obtain ⟨b2,o2,cs2,rfl,zm,hrow2,hr2⟩:=hh k B[k].dat (by simp [hk3]);obtain rfl:=VH hr2;refine ak 8 ?_;intro a H;refine dI hmx [[],[],[0,1],[0,1,2],[],[],[4,5],[4,5,6],(ra 0 8)] [] (by kernel_rfl) [_,_,_,.agg (iB.cells A[k]).toArray,_,_,_,.agg (iB.cells B[k]).toArray,.bool (!decide (A[k]=B[k]))] H (aF (Z0 rfl (Rm rfl)) (Z0 rfl (Rm rfl)) (Z2 0 16 1 17 rfl (Ri sM uZ rfl rfl)) ?_ (aF (Z0 rfl (Rm rfl)) (Z0 rfl (Rm rfl)) (Z2 4 20 5 21 rfl (Ri sM uZ rfl rfl)) ?_ (bH ?_ cZ))) ?_
  ·refine eu 2 18 rfl rfl fun _ a w G1 hG HT H fin=>?_;refine aS uZ (cs:=iB.cells A[k]) H wn rfl rfl (fun j v hj=>H.hp.aI (aH hG (aH hgm (mH j v hj)))) rfl ?_;clear H;intro a H;exact fin H iJ rfl
  ·refine eu 6 22 rfl rfl fun _ a w G1 hG HT H fin=>?_;refine aS uZ (cs:=iB.cells B[k]) H wn rfl rfl (fun j v hj=>H.hp.aI (aH hG (aH hgm (hrow2 j v hj)))) rfl ?_;clear H;intro a H;exact fin H iJ rfl
  ·refine dH 3 19 7 23 rfl rfl fun _ a w G1 hG HT H fin=>?_;refine O4 ajm H wn rfl rfl rfl rfl ?_;clear H;intro a H;exact fin H iJ (aB (fun b=>Value.bool !b) (aqT A[k] B[k]))
  clear H;intro a w G gI H hv;have H:=H.aN (hv 8 24 rfl rfl) rfl;clear hv;refine t0 1 H ?_;clear H;refine goC 0 ?_ ?_
  ·intro fu
   refine aQ 3 ?_;exact (dD (jc fun e=>absurd fu (by subst e;simp)).symm)
  intro fu
  try have jq:=dF fu
  have hsm:A[k]=B[k]:=by simpa using fu
  refine ak 4 ?_;intro a H;refine aC ?_;refine cB ((k+1,G)) sB ?_ ?_
  ·(try dsimp only);exact ⟨by omega,by rw [fQ hk2,fQ hk3,hsame,hsm],fun b o h=>gI b o (hgm b o h)⟩
  first|omega|(dsimp only;omega)
 intro jP
 refine aQ 4 ?_;exact (dD (iT (by rw [fK (by omega),fK (by omega)] at hsame;exact hsame)).symm)
instance:DecidableEq eD:=fun a b=>decidable_of_iff _ (eD.eq_iff a b)
instance:DecidableEq bS:=fun a b=>decidable_of_iff _ (bS.eq_iff a b)
theorem Ol {G:GH} {x:eD} {cs:List aj} (h:aW G x.dat cs):∃ A n c,cs=[vi x.id,.slice A n c]∧au G (.sl 4 (x.levels.map iZ.dat)) (.slice A n c):=by
 obtain ⟨v1,vs,rfl,⟨rfl,-⟩,v2,vs2,rfl,h2,rfl⟩:=h;obtain ⟨A,n,c,rfl⟩:=au.form h2;exact ⟨A,n,c,rfl,h2⟩
theorem Ph {G:GH} {x:bS} {cs:List aj} (h:aW G x.dat cs):∃ A n c,cs=[vi x.id,vi x.kind,.string x.name,vi x.base,vi x.next,.slice A n c]∧au G (.sl 2 (x.props.map aT.dat)) (.slice A n c):=by
 obtain ⟨A,c,h1,h2⟩:=Le h;exact ⟨A,_,c,h1,h2⟩
theorem ajh (G:GH) (w0:World) (hG:Hold G w0) (A B:List eD) (v u fv:aj) (hv:au G (.sl 2 (A.map eD.dat)) v) (hu:au G (.sl 2 (B.map eD.dat)) u) (hf:∀ (i:Nat) (h1:i < A.length) (h2:i < B.length),zR fv G A[i].dat B[i].dat (A[i]=B[i])) :
  Calls prog 55 #[v,u,fv] w0 (bB w0 G fun r G'=>∃ b,r=.bool b∧(b=true↔A=B)):=by
 obtain ⟨vA,vc,rfl,hc1,hc2,hg⟩:=hv.slice;obtain ⟨uA,uc,rfl,hd1,hd2,hh⟩:=hu.slice;have hml:maxLen=9223372036854775807:=rfl;(iterate 2 rw [bM] at *);refine eN [(0,_),(1,_),(2,_)] func55 rfl ntmps55 rfl rfl hG ?_;refine goB 11 ?_ ?_
 ·intro jP
  refine aQ 3 ?_;exact ⟨false,rfl,by simp only [rD,false_iff];exact fun e=>absurd (aB List.length e) (by omega)⟩
 intro jP
 refine ak 8 ?_;intro a H;refine eH (ι:=Nat × GH) (Tc:=[(1,_),(2,_),(15,_),(16,_)]) (Lc:=[]) (fun gh=>[(17,vi gh.1)]) (fun gh=>[]) (fun gh=>gh.2) (fun gh=>gh.1≤A.length∧A.take gh.1=B.take gh.1∧(∀ b o,G b=some o→gh.2 b=some o)) (fun gh=>A.length - gh.1) ((0,G)) sB ?_ ?_
 ·exact ⟨by omega,rfl,fun _ _ h=>h⟩
 clear H;rintro ⟨k,g⟩ a w hI H;dsimp only at hI H;obtain ⟨hk,hsame,hgm⟩:=hI;dsimp only [lca,bG] at H;refine dQ 4 H ?_ ?_ <;> clear H
 ·intro qJ
  have hk2:k < A.length:=by omega
  have hk3:k < B.length:=by omega
  obtain ⟨b1,o1,cs1,rfl,zl,mH,hr1⟩:=hg k A[k].dat (by simp [hk2]);obtain ⟨pA,pn,pc,rfl,-⟩:=Ol hr1;obtain ⟨b2,o2,cs2,rfl,zm,hrow2,hr2⟩:=hh k B[k].dat (by simp [hk3]);obtain ⟨qA,qn,qc,rfl,-⟩:=Ol hr2;refine ak 6 ?_;intro a H;refine aS sJ (cs:=_) H wn rfl rfl (fun j v hj=>H.hp.aI (aH hgm (mH j v hj))) rfl ?_;clear H;intro a H;refine dz sJ H wn rfl ?_;clear H;intro b8 a w Ar H;refine aD 1 H ?_;clear H;intro a H;refine aV sJ 0 (vs:=[_,_]) _ H wn rfl rfl rfl rfl rfl rfl rfl rfl ?_;clear H;intro w H;dsimp only [List.set,setRow] at H;refine aD 5 H ?_;clear H;intro a H;refine aS sJ (cs:=_) H wn rfl rfl (fun j v hj=>H.hp.aI (aH hgm (hrow2 j v hj))) rfl ?_;clear H;intro a H;refine dz sJ H wn rfl ?_;clear H;intro b9 a w rQ H;refine aV sJ 0 (vs:=[_,_]) _ H wn rfl rfl rfl rfl rfl rfl rfl rfl ?_;clear H;intro w H;dsimp only [List.set,setRow] at H;refine aD 3 H ?_;clear H;intro a H;refine aS sJ (cs:=[_,_]) H wn rfl rfl (H.hp.bN 1 rfl rfl) rfl ?_;clear H;intro a H;refine aS sJ (cs:=[_,_]) H wn rfl rfl (H.hp.bN 0 rfl rfl) rfl ?_;clear H;intro a H;refine ji H wn rfl rfl (hf k hk2 hk3 _ _ _ _ hgm H.ro (hr1.mono hgm) (hr2.mono hgm)) rfl ?_;clear H;rintro v29 xG a w ⟨ME,rfl,vQ⟩ xS H;refine iU 2 H ?_ ?_ <;> clear H
  ·intro nN
   refine aQ 3 ?_;exact ⟨false,rfl,by simp only [rD,false_iff];rintro rfl;exact absurd (vQ.2 rfl) (by simpa using nN)⟩
  intro nN
  try have p30:=dF nN
  refine ak 4 ?_;intro a H;refine aC ?_;refine cB ((k+1,xG)) (by exact (H.dY (Pl:=[_,_]) (dM:=[]) [] (by decide) rfl).sub ⟨rfl,rfl,rfl,rfl,rfl,aU⟩) ?_ ?_
  ·(try dsimp only);exact ⟨by omega,by rw [fQ hk2,fQ hk3,hsame,vQ.1 (by simpa using nN)],fun b o h=>xS b o (hgm b o h)⟩
  first|omega|(dsimp only;omega)
 intro qJ
 refine aQ 4 ?_;exact ⟨true,rfl,by rw [fK (by omega),fK (by omega)] at hsame;simpa using hsame⟩
theorem aji (G:GH) (w0:World) (hG:Hold G w0) (A B:List bS) (v u fv:aj) (hv:au G (.sl 6 (A.map bS.dat)) v) (hu:au G (.sl 6 (B.map bS.dat)) u) (hf:∀ (i:Nat) (h1:i < A.length) (h2:i < B.length),zR fv G A[i].dat B[i].dat (A[i]=B[i])) :
  Calls prog 105 #[v,u,fv] w0 (bB w0 G fun r G'=>∃ b,r=.bool b∧(b=true↔A=B)):=by
 obtain ⟨vA,vc,rfl,hc1,hc2,hg⟩:=hv.slice;obtain ⟨uA,uc,rfl,hd1,hd2,hh⟩:=hu.slice;have hml:maxLen=9223372036854775807:=rfl;(iterate 2 rw [bM] at *);refine eN [(0,_),(1,_),(2,_)] func105 rfl ntmps105 rfl rfl hG ?_;refine goB 11 ?_ ?_
 ·intro jP
  refine aQ 3 ?_;exact ⟨false,rfl,by simp only [rD,false_iff];exact fun e=>absurd (aB List.length e) (by omega)⟩
 intro jP
 refine ak 8 ?_;intro a H;refine eH (ι:=Nat × GH) (Tc:=[(1,_),(2,_),(15,_),(16,_)]) (Lc:=[]) (fun gh=>[(17,vi gh.1)]) (fun gh=>[]) (fun gh=>gh.2) (fun gh=>gh.1≤A.length∧A.take gh.1=B.take gh.1∧(∀ b o,G b=some o→gh.2 b=some o)) (fun gh=>A.length - gh.1) ((0,G)) sB ?_ ?_
 ·exact ⟨by omega,rfl,fun _ _ h=>h⟩
 clear H;rintro ⟨k,g⟩ a w hI H;dsimp only at hI H;obtain ⟨hk,hsame,hgm⟩:=hI;dsimp only [lca,bG] at H;refine dQ 4 H ?_ ?_ <;> clear H
 ·intro qJ
  have hk2:k < A.length:=by omega
  have hk3:k < B.length:=by omega
  obtain ⟨b1,o1,cs1,rfl,zl,mH,hr1⟩:=hg k A[k].dat (by simp [hk2]);obtain ⟨pA,pn,pc,rfl,-⟩:=Ph hr1;obtain ⟨b2,o2,cs2,rfl,zm,hrow2,hr2⟩:=hh k B[k].dat (by simp [hk3]);obtain ⟨qA,qn,qc,rfl,-⟩:=Ph hr2;refine ak 6 ?_;intro a H;refine aS jF (cs:=_) H wn rfl rfl (fun j v hj=>H.hp.aI (aH hgm (mH j v hj))) rfl ?_;clear H;intro a H;refine dz jF H wn rfl ?_;clear H;intro b8 a w Ar H;refine aD 1 H ?_;clear H;intro a H;refine aV jF 0 (vs:=[_,_,_,_,_,_]) _ H wn rfl rfl rfl rfl rfl rfl rfl rfl ?_;clear H;intro w H;dsimp only [List.set,setRow] at H;refine aD 5 H ?_;clear H;intro a H;refine aS jF (cs:=_) H wn rfl rfl (fun j v hj=>H.hp.aI (aH hgm (hrow2 j v hj))) rfl ?_;clear H;intro a H;refine dz jF H wn rfl ?_;clear H;intro b9 a w rQ H;refine aV jF 0 (vs:=[_,_,_,_,_,_]) _ H wn rfl rfl rfl rfl rfl rfl rfl rfl ?_;clear H;intro w H;dsimp only [List.set,setRow] at H;refine aD 3 H ?_;clear H;intro a H;refine aS jF (cs:=[_,_,_,_,_,_]) H wn rfl rfl (H.hp.bN 1 rfl rfl) rfl ?_;clear H;intro a H;refine aS jF (cs:=[_,_,_,_,_,_]) H wn rfl rfl (H.hp.bN 0 rfl rfl) rfl ?_;clear H;intro a H;refine ji H wn rfl rfl (hf k hk2 hk3 _ _ _ _ hgm H.ro (hr1.mono hgm) (hr2.mono hgm)) rfl ?_;clear H;rintro v29 xG a w ⟨ME,rfl,vQ⟩ xS H;refine iU 2 H ?_ ?_ <;> clear H
  ·intro nN
   refine aQ 3 ?_;exact ⟨false,rfl,by simp only [rD,false_iff];rintro rfl;exact absurd (vQ.2 rfl) (by simpa using nN)⟩
  intro nN
  try have p30:=dF nN
  refine ak 4 ?_;intro a H;refine aC ?_;refine cB ((k+1,xG)) (by exact (H.dY (Pl:=[_,_]) (dM:=[]) [] (by decide) rfl).sub ⟨rfl,rfl,rfl,rfl,rfl,aU⟩) ?_ ?_
  ·(try dsimp only);exact ⟨by omega,by rw [fQ hk2,fQ hk3,hsame,vQ.1 (by simpa using nN)],fun b o h=>xS b o (hgm b o h)⟩
  first|omega|(dsimp only;omega)
 intro qJ
 refine aQ 4 ?_;exact ⟨true,rfl,by rw [fK (by omega),fK (by omega)] at hsame;simpa using hsame⟩
theorem ajb (G:GH) (x y:eD):zR (.func (.func 49) #[] #[]) G x.dat y.dat (x=y):=by
 intro G1 w0 cs cs' hm hG h1 h2;refine iN (caps:=[]) aiy ?_;obtain ⟨pA,pn,pc,rfl,hp1⟩:=Ol h1;obtain ⟨qA,qn,qc,rfl,hp2⟩:=Ol h2;have he:=eD.eq_iff x y;refine eN [(0,_),(1,_)] func49 rfl ntmps49 rfl rfl hG ?_;refine ak 1 ?_;intro a H;refine dP (cs:=[_,_]) H wn rfl rfl rfl ?_;clear H;intro b2 a w hb2 H;refine dP (cs:=[_,_]) H wn rfl rfl rfl ?_;clear H;intro b3 a w hb3 H;refine kT 9 10 H ?_ ?_ <;> clear H
 ·intro h10
  try have iD:=dT h10
  refine ak 4 ?_;intro a H;refine s_call aiz H (wg H rfl rfl h10) rfl (ajr _ _ H.ro x.levels y.levels _ _ hp1 hp2) rfl ?_;clear H;rintro v15 Bn a w rfl zq H;refine fH 3 H ?_;exact ⟨_,rfl,by rw [← he];simp_all⟩
 intro h10
 try have iD:=dF h10
 refine aQ 8 ?_;exact ⟨_,rfl,by rw [← he];simp_all⟩
theorem ajc (G:GH) (w0:World) (hG:Hold G w0) (A B:List aT) (v u:aj) (hv:au G (.sl 2 (A.map aT.dat)) v) (hu:au G (.sl 2 (B.map aT.dat)) u) :
  Calls prog 107 #[v,u] w0 (bB w0 G fun r G'=>r=.bool (decide (A=B))):=by
 refine eN [(0,_),(1,_)] func107 rfl ntmps107 rfl rfl hG ?_;refine ak 6 ?_;intro a H;refine s_call XW H wn rfl (Yo _ _ H.ro A B _ _ hv hu) rfl ?_;clear H;rintro v7 G7 a w rfl wS H;refine fH 2 H ?_;exact rfl
theorem ajf (G:GH) (x y:bS):zR (.func (.func 106) #[] #[]) G x.dat y.dat (x=y):=by
 intro G1 w0 cs cs' hm hG h1 h2;refine iN (caps:=[]) agp ?_;obtain ⟨pA,pn,pc,rfl,hp1⟩:=Ph h1;obtain ⟨qA,qn,qc,rfl,hp2⟩:=Ph h2;have he:=bS.eq_iff x y;refine eN [(0,_),(1,_)] func106 rfl ntmps106 rfl rfl hG ?_;refine ak 1 ?_;intro a H;refine dP (cs:=[_,_,_,_,_,_]) H wn rfl rfl rfl ?_;clear H;intro b2 a w hb2 H;refine dP (cs:=[_,_,_,_,_,_]) H wn rfl rfl rfl ?_;clear H;intro b3 a w hb3 H;refine pW 9 10 H ?_ ?_ <;> clear H
 ·intro iD
  refine jV 7 17 ?_ ?_
  ·intro jr
   try have jJ:=dT jr
   refine ak 4 ?_;intro a H;refine AY H (wg H rfl rfl jr) rfl rfl rfl ?_;clear H;intro a H;rw [show (x.name.toList == y.name.toList)=decide (x.name=y.name) by rw [mE,bytes_beq,decide_eq_true_iff]] at H;refine pW 2 24 H ?_ ?_ <;> clear H
   ·intro jq
    refine lT 7 31 ?_ ?_
    ·intro p31
     refine jV 7 38 ?_ ?_
     ·intro mF
      try have p38:=dT mF
      refine ak 4 ?_;intro a H;refine s_call agq H (wg H rfl rfl mF) rfl (ajc _ _ H.ro x.props y.props _ _ hp1 hp2) rfl ?_;clear H;rintro v43 I5 a w rfl BQ H;refine fH 3 H ?_;exact ⟨_,rfl,by rw [← he];simp_all⟩
     intro mF
     try have p38:=dF mF
     refine aQ 8 ?_;exact ⟨_,rfl,by rw [← he];simp_all⟩
    intro p31
    refine aQ 15 ?_;exact ⟨_,rfl,by rw [← he];simp_all⟩
   intro jq
   refine aQ 22 ?_;exact ⟨_,rfl,by rw [← he];simp_all⟩
  intro jr
  try have jJ:=dF jr
  refine aQ 29 ?_;exact ⟨_,rfl,by rw [← he];simp_all⟩
 intro iD
 refine aQ 36 ?_;exact ⟨_,rfl,by rw [← he];simp_all⟩
theorem aje (G:GH) (w0:World) (hG:Hold G w0) (A B:List bS) (v u:aj) (hv:au G (.sl 6 (A.map bS.dat)) v) (hu:au G (.sl 6 (B.map bS.dat)) u) :
  Calls prog 54 #[v,u] w0 (bB w0 G fun r G'=>∃ b,r=.bool b∧(b=true↔A=B)):=by
 refine eN [(0,_),(1,_)] func54 rfl ntmps54 rfl rfl hG ?_;refine ak 6 ?_;intro a H;refine s_call agn H wn rfl (aji _ _ H.ro A B _ _ _ hv hu (fun i h1 h2=>ajf _ _ _)) rfl ?_;clear H;rintro v7 G7 a w ⟨b7,rfl,uM⟩ wS H;refine fH 2 H ?_;exact ⟨_,rfl,uM⟩
end
section
open Go.RowKit
section
variable {N:Nat} {D:List Deferred} {w0:World} {F:Nat→Prop} {G0 G G1 G2:GH} {L L1 L2:OL} {T Xs:List (Nat × aj)}
variable {r:Option Nat} {P:Program} {Q:Exit→Act→World→Prop} {l:List Oper} {a a':Act} {w w':World}
theorem aeu {id:Nat} (hm:P.follows .mixedOrders=true) (bJ:List (List Nat)) (B:List Nat) (hk:wK l bJ=true) (hB:uY l bJ B=true) (m1 m2 m3:Nat) (ZM:B.contains m1=false) (NR:B.contains m2=false) (Tq:B.contains m3=false) (hne:Nat.beq m1 m2=false) (hne1:Nat.beq m1 m3=false) (hne2:Nat.beq m2 m3=false) (mU:(bJ.getD m3 []).contains m1=true) (h23:(bJ.getD m3 []).contains m2=true) (Fh Ci UK:Obj) (pr:Nat→Nat→Nat→aj→GH→Prop)
  (hp1:∀ b b' c i v G,Nat.beq i m1=false→(bJ.getD i []).contains m1=false→pr b c i v G→pr b' c i v G)
  (hp2:∀ b c c' i v G,Nat.beq i m2=false→(bJ.getD i []).contains m2=false→pr b c i v G→pr b c' i v G)
  (H:St N D w0 F G0 G L T a w)
  (hstep:allI (fun i o=>∀ b c L' S a w G1,(∀ x,x∈L→x∈L')→B.contains i=false→Nat.beq i m1=false→Nat.beq i m2=false→Nat.beq i m3=false→S i=false→(∀ j∈bJ.getD i [],S j=true)→(∀ k o,G k=some o→G1 k=some o)→St N D w0 F G0 G1 L' T a w→(∀ i d,S i=true→dX l i=some d→∃ v,a.tmps[d]?=some v∧pr b c i v G1) →
   WL r P l.toArray (fun e a' w'=>e=.normal∧DX N D w0 F G0 G L' T l (pr b c) (dh S i) a' w') [o] a w) 0 l)
  (Ka:∀ o c L' S a w G1,(∀ x,x∈L→x∈L')→l[m1]?=some o→S m1=false→(∀ j∈bJ.getD m1 [],S j=true)→(∀ k o,G k=some o→G1 k=some o)→St N D w0 F G0 G1 L' T a w→(∀ b i d,i≠m1→S i=true→dX l i=some d→∃ v,a.tmps[d]?=some v∧pr b c i v G1) →
   WL r P l.toArray (fun e a' w'=>e=.normal∧∃ b,DX N D w0 F G0 G ((b,Fh) :: L') T l (pr b c) (dh S m1) a' w') [o] a w)
  (Ke:∀ o b L' S a w G1,(∀ x,x∈L→x∈L')→l[m2]?=some o→S m2=false→(∀ j∈bJ.getD m2 [],S j=true)→(∀ k o,G k=some o→G1 k=some o)→St N D w0 F G0 G1 L' T a w→(∀ c i d,i≠m2→S i=true→dX l i=some d→∃ v,a.tmps[d]?=some v∧pr b c i v G1) →
   WL r P l.toArray (fun e a' w'=>e=.normal∧∃ c,DX N D w0 F G0 G ((c,Ci) :: L') T l (pr b c) (dh S m2) a' w') [o] a w)
  (Tt:∀ o b c S a w G1,l[m3]?=some o→S m3=false→(∀ j∈bJ.getD m3 [],S j=true)→(∀ k o,G k=some o→G1 k=some o)→St N D w0 F G0 G1 ((b,Fh) :: (c,Ci) :: L) T a w→(∀ i d,S i=true→dX l i=some d→∃ v,a.tmps[d]?=some v∧pr b c i v G1) →
   WL r P l.toArray (fun e a' w'=>e=.normal∧DX N D w0 F G0 G ((b,UK) :: (c,Ci) :: L) T l (pr b c) (dh S m3) a' w') [o] a w)
  (hend:∀ b c a w G1,(∀ k o,G k=some o→G1 k=some o)→St N D w0 F G0 G1 ((b,UK) :: (c,Ci) :: L) T a w→(∀ i d,B.contains i=false→dX l i=some d→∃ v,a.tmps[d]?=some v∧pr b c i v G1)→WL r P l.toArray (fun e a w=>e=.normal∧Q .normal a w) (oq l B) a w)
  (amq:Nat.blt m1 l.length=true) (EM:Nat.blt m2 l.length=true) (EN:Nat.blt m3 l.length=true):WP r P (.region id l.toArray true) Q a w:=by
 have ne:∀ {x y:Nat},Nat.beq x y=false→x≠y:=fun h e=>by subst e;rw [Nat.beq_refl] at h;cases h
 have hne':m1≠m2:=ne hne
 have Kg:m1≠m3:=ne hne1
 have NV:m2≠m3:=ne hne2
 refine El hm bJ B hk hB (fun S a w=>(S m3=true→S m1=true∧S m2=true)∧∃ b c L',L'=(bif S m1 then [(b,bif S m3 then UK else Fh)] else [])++((bif S m2 then [(c,Ci)] else [])++L)∧DX N D w0 F G0 G L' T l (pr b c) S a w)
  ⟨fun h=>absurd (show false=true from h) (by decide),0,0,L,rfl,G,fun _ _ h=>h,H.move H.hp.drew,fun _ _ h=>absurd (show false=true from h) (by decide)⟩ ?_ ?_
 ·rintro i o S a w ho hb aL iL hdesc ⟨Dt,b,c,L',hL,G1,hG,HS,hv⟩
  have hsub:∀ x,x∈L→x∈L':=fun x hx=>by rw [hL];exact List.mem_append_right _ (List.mem_append_right _ hx)
  have hno:∀ j,j < l.length→S j=true→(bJ.getD j []).contains i=false:=fun j hjl hj=>by
   cases hc:(bJ.getD j []).contains i with
   | false=>rfl
   | true =>
    have:=hdesc j hjl (by simpa using hc)
    rw [this] at hj;cases hj
  by_cases h1:i=m1
  ·subst h1
   have zi:S m3=false:=hdesc m3 (Eq.mp Nat.blt_eq EN) (by simpa using mU)
   have h:=Ka o c L' S a w G1 hsub ho aL iL hG HS fun b' j d hj hSj hd=>by
    obtain ⟨v,hv1,hv2⟩:=hv j d hSj hd
    exact ⟨v,hv1,hp1 b b' c j v _ (nX hj) (hno j (qB hd) hSj) hv2⟩
   refine lC (fun e a' w' ⟨he,b',hD⟩=>⟨he,fun h3=>?_,b',c,_,?_,hD⟩) h
   ·rw [show dh S i m3=S m3 from ah Kg.symm,zi] at h3;cases h3
   ·rw [hL,aL,show dh S i i=true from av rfl,show dh S i m2=S m2 from ah hne'.symm,show dh S i m3=S m3 from ah Kg.symm,zi]
    rfl
  ·by_cases h2:i=m2
   ·subst h2
    have zi:S m3=false:=hdesc m3 (Eq.mp Nat.blt_eq EN) (by simpa using h23)
    have h:=Ke o b L' S a w G1 hsub ho aL iL hG HS fun c' j d hj hSj hd=>by
     obtain ⟨v,hv1,hv2⟩:=hv j d hSj hd
     exact ⟨v,hv1,hp2 b c c' j v _ (nX hj) (hno j (qB hd) hSj) hv2⟩
    refine lC (fun e a' w' ⟨he,c',hD⟩=>⟨he,fun h3=>?_,b,c',_,rfl,hD.perm ?_⟩) h
    ·rw [show dh S i m3=S m3 from ah NV.symm,zi] at h3;cases h3
    ·rw [hL,aL,show dh S i i=true from av rfl,show dh S i m1=S m1 from ah hne',show dh S i m3=S m3 from ah NV.symm]
     cases S m1 with
     | false=>exact List.Perm.refl _
     | true=>exact List.Perm.swap _ _ _
   ·by_cases h3:i=m3
    ·subst h3
     have hS1:S m1=true:=iL m1 (by simpa using mU)
     have hS2:S m2=true:=iL m2 (by simpa using h23)
     rw [hS1,hS2,aL] at hL
     subst hL
     have h:=Tt o b c S a w G1 ho aL iL hG HS hv
     refine lC (fun e a' w' ⟨he,hD⟩=>⟨he,fun _=>⟨?_,?_⟩,b,c,_,?_,hD⟩) h
     ·rw [show dh S i m1=S m1 from ah Kg];exact hS1
     ·rw [show dh S i m2=S m2 from ah NV];exact hS2
     ·rw [show dh S i i=true from av rfl,show dh S i m1=S m1 from ah Kg,show dh S i m2=S m2 from ah NV,hS1,hS2];rfl
    ·have h:=yP hstep i o ho
     rw [fV] at h
     have e1:dh S i m1=S m1:=ah (fun e=>h1 e.symm)
     have e2:dh S i m2=S m2:=ah (fun e=>h2 e.symm)
     have e3:dh S i m3=S m3:=ah (fun e=>h3 e.symm)
     refine lC (fun e a' w' ⟨he,hD⟩=>⟨he,?_,b,c,L',?_,hD⟩) (h b c L' S a w G1 hsub hb (nX h1) (nX h2) (nX h3) aL iL hG HS hv)
     ·rw [e1,e2,e3];exact Dt
     ·rw [e1,e2,e3];exact hL
 ·rintro S a w hall Ic ⟨Dt,b,c,L',hL,G1,hG,HS,hv⟩
  have hs1:S m1=true:=hall m1 (Eq.mp Nat.blt_eq amq) ZM
  have hs2:S m2=true:=hall m2 (Eq.mp Nat.blt_eq EM) NR
  have hs3:S m3=true:=hall m3 (Eq.mp Nat.blt_eq EN) Tq
  rw [hs1,hs2,hs3] at hL
  subst hL
  exact hend b c a w G1 hG HS fun j d hb hd=>hv j d (hall j (qB hd) hb) hd
end
end
section
open Go.RowKit
theorem aiA:∀ args w,(callFunc 53 args).run prog w=.ok (.enter 53 args) w:=enters func53 rfl (by kernel_rfl)
theorem aiB:∀ args w,(callFunc 54 args).run prog w=.ok (.enter 54 args) w:=enters func54 rfl (by kernel_rfl)
theorem aiC:∀ args w,(callFunc 55 args).run prog w=.ok (.enter 55 args) w:=enters func55 rfl (by kernel_rfl)
theorem aiD:∀ args w,(callFunc 56 args).run prog w=.ok (.enter 56 args) w:=enters func56 rfl (by kernel_rfl)
theorem aiE:∀ args w,(callFunc 57 args).run prog w=.ok (.enter 57 args) w:=enters func57 rfl (by kernel_rfl)
theorem gG.eq_iff (a b:gG):((((((a.flow=b.flow∧a.fin=b.fin)∧a.revs=b.revs)∧a.iw.styles=b.iw.styles)∧a.iw.lists=b.iw.lists)∧a.iw.comments=b.iw.comments)∧a.iw.vars=b.iw.vars)↔a=b:=by
 obtain ⟨a1,a2,a3,a4,a5,a6,a7⟩:=a;obtain ⟨b1,b2,b3,b4,b5,b6,b7⟩:=b
 simp [and_assoc]
theorem M5 (G:GH) (w0:World) (hG:Hold G w0) (D E:gy) (x y:gG) (hD:iG G D x) (hE:iG G E y) (hz:cu x.flow≤4294967296) :
  Calls prog 16 #[D.val,E.val] w0 (bB w0 G fun u G'=>∃ b,u=.bool b∧(b=true↔x=y)):=by
 have he:=gG.eq_iff x y;refine eN [(0,_),(1,_)] func16 rfl ntmps16 rfl rfl hG ?_;refine ak 1 ?_;intro a H;refine dP (cs:=[_,_,_,_,_,_,_,_,_,_,_]) H wn rfl rfl rfl ?_;clear H;intro b2 a w hb2 H;refine dP (cs:=[_,_,_,_,_,_,_,_,_,_,_]) H wn rfl rfl rfl ?_;clear H;intro b3 a w hb3 H;refine aD 3 H ?_;clear H;intro a H;obtain ⟨Ga0,Dn,uL,H⟩:=H.dZ;obtain ⟨Ga,zw,hb2',H⟩:=H.dZ;have hga:=fun j v hj=>kL hb2' 0 D.cells rfl j v hj;have hge:∀ j v,E.cells[j]?=some v→aI Ga b3 (0+j)=some v:=fun j v hj=>aH zw (kL uL 0 E.cells rfl j v hj)
 have hgd:∀ j v,[aM D.p,vi x.fin.marks.ins,vi x.fin.marks.move,aM D.d,aM D.y][j]?=some v→aI Ga b2 (1+j)=some v:=fun j v hj=>by rw [← hD.ins,← hD.mv] at hj;exact kL hb2' 1 [aM D.p,vi D.ins,vi D.move,aM D.d,aM D.y] rfl j v hj
 have hgf:∀ j v,[aM E.p,vi y.fin.marks.ins,vi y.fin.marks.move,aM E.d,aM E.y][j]?=some v→aI Ga b3 (1+j)=some v:=fun j v hj=>by rw [← hE.ins,← hE.mv] at hj;exact aH zw (kL uL 1 [aM E.p,vi E.ins,vi E.move,aM E.d,aM E.y] rfl j v hj)
 have hgs:∀ j v,[aM D.s1,aM D.s2,aM D.s3,aM D.s4][j]?=some v→aI Ga b2 (7+j)=some v:=fun j v hj=>kL hb2' 7 [aM D.s1,aM D.s2,aM D.s3,aM D.s4] rfl j v hj;have hgt:∀ j v,[aM E.s1,aM E.s2,aM E.s3,aM E.s4][j]?=some v→aI Ga b3 (7+j)=some v:=fun j v hj=>aH zw (kL uL 7 [aM E.s1,aM E.s2,aM E.s3,aM E.s4] rfl j v hj);have hx1:=(hD.fl.mono Dn).mono zw;have hy1:=(hE.fl.mono Dn).mono zw;have hx2:=(hD.hd.mono Dn).mono zw;have hy2:=(hE.hd.mono Dn).mono zw;have hx3:=(hD.rv.mono Dn).mono zw;have hy3:=(hE.rv.mono Dn).mono zw;have hx4:=(hD.st.mono Dn).mono zw;have hy4:=(hE.st.mono Dn).mono zw;clear hD hE
 have dN:∀ (aJ qy aP:Nat) (v:aj) (G G':GH),(∀ k o,G k=some o→G' k=some o)→(fun (aJ qy aP:Nat) (v:aj) (G:GH)=>match aP with|0=>v=(aG b2 7)|1=>v=.agg #[aM D.s1,aM D.s2,aM D.s3,aM D.s4]|2=>v=(aG b3 7)|3=>v=.agg #[aM E.s1,aM E.s2,aM E.s3,aM E.s4]|4=>v=(aG aJ 0)|5=>v=(aG qy 0)|_=>True) aJ qy aP v G→(fun (aJ qy aP:Nat) (v:aj) (G:GH)=>match aP with|0=>v=(aG b2 7)|1=>v=.agg #[aM D.s1,aM D.s2,aM D.s3,aM D.s4]|2=>v=(aG b3 7)|3=>v=.agg #[aM E.s1,aM E.s2,aM E.s3,aM E.s4]|4=>v=(aG aJ 0)|5=>v=(aG qy 0)|_=>True) aJ qy aP v G':=by
  intro aJ qy aP v G G' hm h
  match aP,h with
  | 0,h=>exact h
  | 1,h=>exact h
  | 2,h=>exact h
  | 3,h=>exact h
  | 4,h=>exact h
  | 5,h=>exact h
  | 6,h=>exact trivial
  | 7,h=>exact trivial
  | _+8,h=>exact trivial
 refine aeu (hmx) [[],[0],[],[2],[],[],[0,1,4,5],(ra 0 7)] [7] (by kernel_rfl) (by kernel_rfl) 4 5 6 (by decide) (by decide) (by decide) (by decide) (by decide) (by decide) (by decide) (by decide) (.cells #[.slice none 0 0,.slice none 0 0,.slice none 0 0,.slice none 0 0] 36 (0,0)) (.cells #[.slice none 0 0,.slice none 0 0,.slice none 0 0,.slice none 0 0] 36 (0,0)) (.cells #[aM D.s1,aM D.s2,aM D.s3,aM D.s4] 36 (0,0)) (fun (aJ qy aP:Nat) (v:aj) (G:GH)=>match aP with|0=>v=(aG b2 7)|1=>v=.agg #[aM D.s1,aM D.s2,aM D.s3,aM D.s4]|2=>v=(aG b3 7)|3=>v=.agg #[aM E.s1,aM E.s2,aM E.s3,aM E.s4]|4=>v=(aG aJ 0)|5=>v=(aG qy 0)|_=>True) (fun b b' c i v G hi hc h=>by match i,hi,hc,h with|0,_,_,h=>exact h|1,_,_,h=>exact h|2,_,_,h=>exact h|3,_,_,h=>exact h|4,hi,_,_=>exact absurd hi (by decide)|5,_,_,h=>exact h|6,_,hc,_=>exact absurd hc (by decide)|7,_,hc,_=>exact absurd hc (by decide)|_+8,_,_,_=>exact trivial) (fun b c c' i v G hi hc h=>by match i,hi,hc,h with|0,_,_,h=>exact h|1,_,_,h=>exact h|2,_,_,h=>exact h|3,_,_,h=>exact h|4,_,_,h=>exact h|5,hi,_,_=>exact absurd hi (by decide)|6,_,hc,_=>exact absurd hc (by decide)|7,_,hc,_=>exact absurd hc (by decide)|_+8,_,_,_=>exact trivial) H ?_ ?_ ?_ ?_ ?_ (by kernel_rfl) (by kernel_rfl) (by kernel_rfl)
 ·clear H;refine aF ?_ ?_ ?_ ?_ (aF ?_ ?_ ?_ ?_ cZ)
  ·intro aJ qy dL aR a w G1 dO _ _ _ _ aL hc hG HT hv;have H:=HT;clear aL;have Hb:=H.full;have H:=Hb;clear hc;refine aD 1 H ?_;clear H;intro a H;refine aC ⟨rfl,?_⟩;exact dG (by kernel_rfl) (dN aJ qy) rfl rfl HT Hb hG hv (fun _ _ h=>h) (rfl) H
  ·intro aJ qy dL aR a w G1 dO _ _ _ _ aL hc hG HT hv;have H:=HT;clear aL;have H:=H.aN (hv 0 8 (hc 0 (by decide)) rfl) rfl;have Hb:=H.full;have H:=Hb;clear hc;refine aS sH (cs:=[aM D.s1,aM D.s2,aM D.s3,aM D.s4]) H wn rfl rfl (fun j v hj=>H.hp.aI (aH hG (hgs j v hj))) rfl ?_;clear H;intro a H;refine aC ⟨rfl,?_⟩;exact dG (by kernel_rfl) (dN aJ qy) rfl rfl HT Hb hG hv (fun _ _ h=>h) (rfl) H
  ·intro aJ qy dL aR a w G1 dO _ _ _ _ aL hc hG HT hv;have H:=HT;clear aL;have Hb:=H.full;have H:=Hb;clear hc;refine aD 1 H ?_;clear H;intro a H;refine aC ⟨rfl,?_⟩;exact dG (by kernel_rfl) (dN aJ qy) rfl rfl HT Hb hG hv (fun _ _ h=>h) (rfl) H
  ·intro aJ qy dL aR a w G1 dO _ _ _ _ aL hc hG HT hv;have H:=HT;clear aL;have H:=H.aN (hv 2 10 (hc 2 (by decide)) rfl) rfl;have Hb:=H.full;have H:=Hb;clear hc;refine aS sH (cs:=[aM E.s1,aM E.s2,aM E.s3,aM E.s4]) H wn rfl rfl (fun j v hj=>H.hp.aI (aH hG (hgt j v hj))) rfl ?_;clear H;intro a H;refine aC ⟨rfl,?_⟩;exact dG (by kernel_rfl) (dN aJ qy) rfl rfl HT Hb hG hv (fun _ _ h=>h) (rfl) H
  ·intro _ _ _ _ _ _ _ _ _ hB;exact absurd hB (by decide)
  ·intro _ _ _ _ _ _ _ _ _ _ hB;exact absurd hB (by decide)
  ·intro _ _ _ _ _ _ _ _ _ _ _ hB;exact absurd hB (by decide)
  intro _ _ _ _ _ _ _ _ hB;exact absurd hB (by decide)
 ·clear H;intro o_ qy dL aR a w G1 dO jW _ hc hG HT hv;obtain rfl:_=o_:=Option.some.inj jW;clear jW;have H:=HT;have Hb:=H.full;have H:=Hb;clear hc;refine dz sH H wn rfl ?_;clear H;intro b5 a w hb5 H;refine aC ⟨rfl,b5,?_⟩;exact Er (by kernel_rfl) rfl HT Hb hG (fun j e h1 h2 h3=>hv _ j e h1 h2 h3) (rfl) H
 ·clear H;intro o_ aJ dL aR a w G1 dO jW _ hc hG HT hv;obtain rfl:_=o_:=Option.some.inj jW;clear jW;have H:=HT;have Hb:=H.full;have H:=Hb;clear hc;refine dz sH H wn rfl ?_;clear H;intro b6 a w hb6 H;refine aC ⟨rfl,b6,?_⟩;exact Er (by kernel_rfl) rfl HT Hb hG (fun j e h1 h2 h3=>hv _ j e h1 h2 h3) (rfl) H
 ·clear H;intro o_ aJ qy aR a w G1 jW _ hc hG HT hv;obtain rfl:_=o_:=Option.some.inj jW;clear jW;have H:=HT;have H:=H.aN (hv 4 5 (hc 4 (by decide)) rfl) rfl;have H:=H.aN (hv 1 9 (hc 1 (by decide)) rfl) rfl;have Hb:=H.full;have H:=Hb;clear hc;refine aV sH 0 (vs:=[_,_,_,_]) _ H wn rfl rfl rfl rfl rfl rfl rfl rfl ?_;clear H;intro w H;dsimp only [List.set,setRow] at H;refine aC ⟨rfl,?_⟩;exact QS rfl HT hG hv H
 clear H;intro b5 b6 a w G iP H hv;have H:=H.aN (hv 4 5 rfl rfl) rfl;have H:=H.aN (hv 5 6 rfl rfl) rfl;have H:=H.aN (hv 3 11 rfl rfl) rfl;clear hv;refine aV sH 1 (vs:=[_,_,_,_]) _ H wn rfl rfl rfl rfl rfl rfl rfl rfl ?_;clear H;intro w H;dsimp only [List.set,setRow] at H;refine aC ⟨rfl,?_⟩;refine dR ?_;refine fO 5 H ?_;clear H;intro a H;refine iF pK H wn rfl (H.hp.aI (aH iP (hga 0 _ rfl))) rfl ?_;clear H;refine ak 1 ?_;intro a H;refine iF pK H wn rfl (H.hp.aI (aH iP (hge 0 _ rfl))) rfl ?_;clear H;intro a H;refine s_call Rp H wn rfl (aju _ _ H.ro x.flow y.flow _ _ (hx1.mono iP) (hy1.mono iP) (by omega)) rfl ?_;clear H;rintro v16 nV a w ⟨b16,rfl,Zf⟩ jv H;refine kT 1 17 H ?_ ?_ <;> clear H
 ·intro jr
  try have jJ:=dT jr
  refine ak 1 ?_;intro a H;refine aS dw (cs:=[aM D.p,vi x.fin.marks.ins,vi x.fin.marks.move,aM D.d,aM D.y]) H (wg H rfl rfl jr) rfl rfl (fun j v hj=>H.hp.aI (aH jv (aH iP (hgd j v hj)))) rfl ?_;clear H;refine ak 1 ?_;intro a H;refine aS dw (cs:=[aM E.p,vi y.fin.marks.ins,vi y.fin.marks.move,aM E.d,aM E.y]) H (wg H rfl rfl jr) rfl rfl (fun j v hj=>H.hp.aI (aH jv (aH iP (hgf j v hj)))) rfl ?_;clear H;intro a H;refine s_call GK H (wg H rfl rfl jr) rfl (GN _ _ H.ro x.fin y.fin _ _ _ _ _ _ ((hx2.mono iP).mono jv) ((hy2.mono iP).mono jv)) rfl ?_;clear H;rintro v22 V6 a w rfl Hz H;refine kT 2 24 H ?_ ?_ <;> clear H
  ·intro fu
   try have jq:=dT fu
   refine ak 1 ?_;intro a H;refine iF zO H (wg H rfl rfl fu) rfl (H.hp.aI (aH Hz (aH jv (aH iP (hga 6 _ rfl))))) rfl ?_;clear H;refine ak 1 ?_;intro a H;refine iF zO H (wg H rfl rfl fu) rfl (H.hp.aI (aH Hz (aH jv (aH iP (hge 6 _ rfl))))) rfl ?_;clear H;intro a H;refine s_call aiA H (wg H rfl rfl fu) rfl (ajs _ _ H.ro x.revs y.revs _ _ (((hx3.mono iP).mono jv).mono Hz) (((hy3.mono iP).mono jv).mono Hz)) rfl ?_;clear H;rintro v29 xG a w rfl xS H;have hx5:=(((hx4.mono iP).mono jv).mono Hz).mono xS;have Oe:=(((hy4.mono iP).mono jv).mono Hz).mono xS;refine kT 2 31 H ?_ ?_ <;> clear H
   ·intro h31
    try have p31:=dT h31
    refine ak 4 ?_;intro a H;refine s_call aiB H (wg H rfl rfl h31) rfl (aje _ _ H.ro x.iw.styles y.iw.styles _ _ hx5.st Oe.st) rfl ?_;clear H;rintro v36 G36 a w ⟨b36,rfl,aty⟩ H6 H;refine kT 2 38 H ?_ ?_ <;> clear H
    ·intro mF
     try have p38:=dT mF
     refine ak 5 ?_;intro a H;refine s_call aiC H (wg H rfl rfl mF) rfl (ajh _ _ H.ro x.iw.lists y.iw.lists _ _ _ (hx5.li.mono H6) (Oe.li.mono H6) (fun i h1 h2=>ajb _ _ _)) rfl ?_;clear H;rintro v44 Wd a w ⟨b44,rfl,atB⟩ J5 H;refine kT 2 46 H ?_ ?_ <;> clear H
     ·intro h46
      try have p46:=dT h46
      refine ak 4 ?_;intro a H;refine s_call aiD H (wg H rfl rfl h46) rfl (ajq _ _ H.ro x.iw.comments y.iw.comments _ _ ((hx5.cm.mono H6).mono J5) ((Oe.cm.mono H6).mono J5)) rfl ?_;clear H;rintro v51 G51 a w rfl H8 H;refine kT 2 53 H ?_ ?_ <;> clear H
      ·intro Nr
       try have p53:=dT Nr
       refine ak 4 ?_;intro a H;refine s_call aiE H (wg H rfl rfl Nr) rfl (ajt _ _ H.ro x.iw.vars y.iw.vars _ _ (((hx5.va.mono H6).mono J5).mono H8) (((Oe.va.mono H6).mono J5).mono H8)) rfl ?_;clear H;rintro v58 Wm a w rfl ZI H;refine fH 3 H ?_;exact ⟨_,rfl,by rw [← he];simp_all⟩
      intro Nr
      try have p53:=dF Nr
      refine aQ 8 ?_;exact ⟨_,rfl,by rw [← he];simp_all⟩
     intro h46
     try have p46:=dF h46
     refine aQ 15 ?_;exact ⟨_,rfl,by rw [← he];simp_all⟩
    intro mF
    try have p38:=dF mF
    refine aQ 23 ?_;exact ⟨_,rfl,by rw [← he];simp_all⟩
   intro h31
   try have p31:=dF h31
   refine aQ 30 ?_;exact ⟨_,rfl,by rw [← he];simp_all⟩
  intro fu
  try have jq:=dF fu
  refine aQ 37 ?_;exact ⟨_,rfl,by rw [← he];simp_all⟩
 intro jr
 try have jJ:=dF jr
 refine aQ 44 ?_;exact ⟨_,rfl,by rw [← he];simp_all⟩
end
section
open Go.RowKit
theorem QV:∀ args w,(callFunc 12 args).run prog w=.ok (.enter 12 args) w:=enters func12 rfl (by kernel_rfl)
theorem agL:∀ args w,(callFunc 13 args).run prog w=.ok (.enter 13 args) w:=enters func13 rfl (by kernel_rfl)
theorem M7:∀ args w,(callFunc 16 args).run prog w=.ok (.enter 16 args) w:=enters func16 rfl (by kernel_rfl)
theorem X8:∀ args w,(callFunc 18 args).run prog w=.ok (.enter 18 args) w:=enters func18 rfl (by kernel_rfl)
def zeroV:gy:=⟨(none,0,0),(none,0,0),(none,0,0),(none,0,0),(none,0,0),(none,0,0),(none,0,0),(none,0,0),(none,0,0),0,0⟩
theorem adz (G:GH):iG G zeroV PL:=⟨au.gZ rfl (by decide),FQ _,rfl,rfl,au.gZ rfl (by decide),au.gZ rfl (by decide),au.gZ rfl (by decide),au.gZ rfl (by decide),au.gZ rfl (by decide)⟩
theorem abk {acc rej:Int→Bool} {d:gG} (hs:ug 536870912 d) (hc:iO d=0):xE (kN acc rej d)∧(tQ (kN acc rej d).flow∧cu (lW (kN acc rej d).flow)≤1073741824∧(∀ k∈qZ (xY (kN acc rej d)),-9223372036854775808≤k∧k < 9223372036854775808)∧(qZ (xY (kN acc rej d))).length≤4294967296) :=
 ⟨(Iw hs (by decide) (by decide)).z,aaV (Iw hs (by decide) (by decide)).z (abO hc)⟩
theorem abE {A R:List Int} {d:gG} (hs:ug 536870912 d):cu (yh A R d).flow≤4294967296:=by
 unfold yh
 split
 ·have:=(UF (Iw (acc:=lsB A) (rej:=lsB R) hs (by decide) (by decide))).fl;omega
 exact gW _
end
section
open Go.RowKit
theorem ahY:∀ args w,(callFunc 24 args).run prog w=.ok (.enter 24 args) w:=enters func24 rfl (by kernel_rfl)
theorem aie:∀ args w,(callFunc 25 args).run prog w=.ok (.enter 25 args) w:=enters func25 rfl (by kernel_rfl)
theorem alc (k:Int):mW [] k=false:=by
 have:gX [] k=0:=Nat.le_zero.1 (CZ [] k)
 unfold mW;rw [this];rfl
theorem akb (l:List Int):l.findIdx? (lsB [])=none:=List.findIdx?_eq_none_iff.2 fun x _=>alc x
theorem YP (e:Int):cO [e,0,0]=e∧cO [0,e,0]=e:=by
 constructor <;> (simp only [cO];split <;> simp_all)
theorem Qy (l:List Int):oU [] l=oU l []:=by
 unfold oU
 rw [akb];exact (YP _).2.trans (YP _).1.symm
theorem aoa (G:GH) (w0:World) (hG:Hold G w0) (D:gy) (d:gG) (hR:iG G D d) (hs:ug 536870912 d) (l:List Int) (v:aj) (hv:au G (.sl 1 (l.map fun k=>[li k])) v) (hl:l.length≤4294967296) :
  Calls prog 5 #[D.val,v] w0 (bB w0 G fun u G'=>u=.bool true):=by
 obtain ⟨aA,an,ac,rfl⟩:=hv.form;have hd:Bj G l [] (.slice aA an ac) (.slice none 0 0):=⟨hv,au.gZ rfl (by decide),hl,by decide⟩;have hd2:Bj G [] l (.slice none 0 0) (.slice aA an ac):=⟨au.gZ rfl (by decide),hv,by decide,hl⟩;refine eN [(0,_),(1,_)] func5 rfl ntmps5 rfl rfl hG ?_;intro a H;refine vJ (fun _ K1=>?_);refine Bw ?_;refine dP (cs:=[_,_,_,_,_,_,_,_,_,_,_]) H wn rfl rfl rfl ?_;clear H;intro b2 a w hb2 H;refine kH H (gu K1 rfl (SQ fun _ K2=>SQ fun _ K3=>?_));clear H K1;intro a H;obtain ⟨Ga,hma,hb2',H⟩:=H.dZ;have hgd:=fun j v hj=>kL hb2' 0 D.cells rfl j v hj;replace hR:=hR.mono hma;replace hd:=hd.mono hma;replace hd2:=hd2.mono hma;refine Bw ?_;refine s_call QV H wn rfl (Ul _ _ H.ro) rfl ?_;clear H;rintro v12 zT a w rfl vX H;replace hR:=hR.mono vX;replace hd:=hd.mono vX;replace hd2:=hd2.mono vX;replace hgd:=fun j v hj=>aH vX (hgd j v hj);refine kH H (Rn rfl (Rm rfl (Sp 14 rfl ?_ ?_))) <;> clear H
 ·intro kD a H
  try have jP:=dT kD
  refine kH H (jR kD rfl (nK kD rfl (Pt kD rfl (Kn K3 (Ct rfl rfl (SQ fun _ K4=>SC ?_))))));clear H K3;intro a H;refine s_call QV H wn rfl (Ul _ _ H.ro) rfl ?_;clear H;rintro v21 IY a w rfl pY H;replace hR:=hR.mono pY;replace hd:=hd.mono pY;replace hd2:=hd2.mono pY;replace hgd:=fun j v hj=>aH pY (hgd j v hj);exact kH H (gu K4 rfl (LR results5 rfl fun H=>H.rt (by first|rfl|(simp_all;done))))
 intro kD a H
 try have jP:=dF kD
 refine aS fI (cs:=D.cells) H (wg H rfl rfl kD) rfl rfl (fun j v hj=>H.hp.aI (hgd j v hj)) rfl ?_;clear H;intro a H;refine kH H (YM kD rfl ?_);clear H;intro a H;refine iy La [_,_] H (wg H rfl rfl kD) rfl rfl rfl rfl ?_;clear H;intro a H;refine s_call agL H (wg H rfl rfl kD) rfl (arF _ _ H.ro D d hR hs.z l [] _ _ hd) rfl ?_;clear H;rintro v18 PV a w ⟨b18,rfl,JY⟩ hm18 H;replace hR:=hR.mono hm18;replace hd:=hd.mono hm18;replace hd2:=hd2.mono hm18;replace hgd:=fun j v hj=>aH hm18 (hgd j v hj);refine kH H (YN kD rfl (Pf kD rfl (Kn K3 (Cd rfl ?_ ?_)))) <;> clear H K3
 ·intro h20 a H
  try have Ck:=dT h20
  refine vJ (fun _ K5=>?_);refine Bw ?_;refine s_call QV H wn rfl (Ul _ _ H.ro) rfl ?_;clear H;rintro v21 IY a w rfl pY H;replace hR:=hR.mono pY;replace hd:=hd.mono pY;replace hd2:=hd2.mono pY;replace hgd:=fun j v hj=>aH pY (hgd j v hj);exact kH H (gu K5 rfl (LR results5 rfl fun H=>H.rt (by first|rfl|(simp_all;done))))
 intro h20 a H
 try have Ck:=dF h20
 refine jB ?_;refine K2 _ _ ?_;clear K2;refine vJ (fun _ K6=>?_)
 have hc:iO d=0:=by simp_all
 refine Bw ?_;refine aS fI (cs:=D.cells) H wn rfl rfl (fun j v hj=>H.hp.aI (hgd j v hj)) rfl ?_;clear H;intro a H;refine kH H (Rm rfl ?_);clear H;intro a H;refine s_call ahY H wn rfl (adY _ _ H.ro D d hR hs hc l _ hd.ha hl) rfl ?_;clear H;rintro v25 IZ a w ⟨E,rfl,hE⟩ tJ H;replace hR:=hR.mono tJ;replace hd:=hd.mono tJ;replace hd2:=hd2.mono tJ;replace hgd:=fun j v hj=>aH tJ (hgd j v hj);refine kH H (Rm rfl ?_);clear H;intro a H;(iterate 2 refine jK H wn rfl rfl rfl ?_;clear H;intro a H);refine dz fI H wn rfl ?_;clear H;intro b5 a w hb5 H;refine aV fI 0 (vs:=[_,_,_,_,_,_,_,_,_,_,_]) _ H wn rfl rfl rfl rfl rfl rfl rfl rfl ?_;clear H;intro w H;dsimp only [List.set,setRow] at H;refine kH H (gu K6 rfl (SQ fun _ K7=>SC ?_));clear H K6;intro a H;refine aS fI (cs:=D.cells) H wn rfl rfl (fun j v hj=>H.hp.aI (hgd j v hj)) rfl ?_;clear H;intro a H;refine kH H (Rm rfl ?_);clear H;intro a H;refine s_call aie H wn rfl (apM _ _ H.ro D d hR hs hc l _ hd.ha hl) rfl ?_;clear H;rintro v31 V8 a w ⟨F,rfl,hF⟩ HY H;rw [Qy] at H;replace hR:=hR.mono HY;replace hE:=hE.mono HY;replace hd:=hd.mono HY;replace hd2:=hd2.mono HY;replace hgd:=fun j v hj=>aH HY (hgd j v hj);refine kH H (Rm rfl ?_);clear H;intro a H;(iterate 2 refine jK H wn rfl rfl rfl ?_;clear H;intro a H);refine dz fI H wn rfl ?_;clear H;intro b7 a w uM H;refine aV fI 0 (vs:=[_,_,_,_,_,_,_,_,_,_,_]) _ H wn rfl rfl rfl rfl rfl rfl rfl rfl ?_;clear H;intro w H;dsimp only [List.set,setRow] at H;refine kH H (gu K7 rfl (SQ fun _ K8=>SC (Rm rfl ?_)));clear H K7;intro a H;refine iy La [_,_] H wn rfl rfl rfl rfl ?_;clear H;intro a H;refine kH H (Rm rfl ?_);clear H;intro a H;refine iy La [_,_] H wn rfl rfl rfl rfl ?_;clear H;intro a H;refine dz sI H wn rfl ?_;clear H;intro b9 a w rQ H;refine dz sI H wn rfl ?_;clear H;intro b10 a w ald H;refine aV sI 1 (vs:=[_,_]) _ H wn rfl rfl rfl rfl rfl rfl rfl rfl ?_;clear H;intro w H;dsimp only [List.set,setRow] at H;refine aV sI 0 (vs:=[_,_]) _ H wn rfl rfl rfl rfl rfl rfl rfl rfl ?_;clear H;intro w H;dsimp only [List.set,setRow] at H;refine kH H (Kn K8 (SQ fun _ K9=>SQ fun _ vB=>SC ?_));clear H K8;intro a H;refine aS sI (cs:=[_,_]) H wn rfl rfl (H.hp.bN 1 rfl rfl) rfl ?_;clear H;intro a H;refine s_call Ye H wn rfl (Xo _ _ H.ro l [] _ _ hd.ha hd.hr hd.la hd.lr) rfl ?_;clear H;rintro v39 Me a w rfl zu H;replace hR:=hR.mono zu;replace hE:=hE.mono zu;replace hF:=hF.mono zu;replace hd:=hd.mono zu;replace hd2:=hd2.mono zu;replace hgd:=fun j v hj=>aH zu (hgd j v hj);refine kH H (gu vB rfl (SQ fun _ nJ=>SC (Rm rfl (Rc rfl (Kn nJ (Cd rfl ?_ ?_)))))) <;> clear H vB nJ
 ·intro R9 a H
  try have p41:=dT R9
  refine kP H (SQ fun _ uh=>SC (Rm rfl (Rm rfl (Rc rfl (Rm rfl (Sp 45 rfl ?_ ?_)))))) <;> clear H
  ·intro h45 a H
   try have p45:=dT h45
   refine kH H (YM h45 rfl (YM h45 rfl (YC h45 rfl (Pt h45 rfl (Rm rfl (Sp 50 rfl ?_ ?_)))))) <;> clear H
   ·intro h50 a H
    try have p50:=dT h50
    refine aS fI (cs:=E.cells) H (wg H rfl rfl h50) rfl rfl (H.hp.bN 3 rfl rfl) rfl ?_;clear H;intro a H;refine iy KZ [_,_,_,_,_,_,_,_,_,_,_] H (wg H rfl rfl h50) rfl rfl rfl rfl ?_;clear H;intro a H;refine s_call M7 H (wg H rfl rfl h50) rfl (M5 _ _ H.ro E zeroV _ PL hE (adz _) (abE hs)) rfl ?_;clear H;rintro v53 P6 a w ⟨WY,rfl,SK⟩ amk H;obtain rfl:=SK.2 (by unfold yh;rw [ah (by simp_all)]);refine kH H (Pt h50 rfl (Rm rfl (Sp 55 rfl ?_ ?_))) <;> clear H
    ·intro BG a H
     try have p55:=dT BG
     refine aS fI (cs:=F.cells) H (wg H rfl rfl BG) rfl rfl (H.hp.bN 2 rfl rfl) rfl ?_;clear H;intro a H;refine iy KZ [_,_,_,_,_,_,_,_,_,_,_] H (wg H rfl rfl BG) rfl rfl rfl rfl ?_;clear H;intro a H;refine s_call M7 H (wg H rfl rfl BG) rfl (M5 _ _ H.ro F zeroV _ PL (hF.mono amk) (adz _) (abE hs)) rfl ?_;clear H;rintro v58 Wm a w ⟨b58,rfl,alq⟩ ZI H;obtain rfl:=alq.2 (by unfold yh;rw [ah (by rw [Qy];simp_all)]);exact kH H (Pt BG rfl (gu uh rfl (LR results5 rfl fun H=>H.rt (by first|rfl|(simp_all;done)))))
    intro BG a H
    try have p55:=dF BG
    exact kH H (jR BG rfl (Pf BG rfl (gu uh rfl (LR results5 rfl fun H=>H.rt (by first|rfl|(simp_all;done))))))
   intro h50 a H
   try have p50:=dF h50
   exact kH H (jR h50 rfl (Pf h50 rfl (Rm rfl (jR rfl rfl (Pf rfl rfl (gu uh rfl (LR results5 rfl fun H=>H.rt (by first|rfl|(simp_all;done)))))))))
  intro h45 a H
  try have p45:=dF h45
  exact kH H (jR h45 rfl (Pf h45 rfl (Rm rfl (jR rfl rfl (Pf rfl rfl (Rm rfl (jR rfl rfl (Pf rfl rfl (gu uh rfl (LR results5 rfl fun H=>H.rt (by first|rfl|(simp_all;done))))))))))))
 intro R9 a H
 try have p41:=dF R9
 refine jB ?_;refine K9 _ _ ?_;clear K9;refine vJ (fun _ zW=>?_)
 have hcd:oU l []=0:=by simp_all
 obtain ⟨G1,hm1,ale,H⟩:=H.dZ;obtain ⟨G2,hm2,alv,H⟩:=H.dZ;obtain ⟨G3,HV,SV,H⟩:=H.dZ;obtain ⟨Gc,Av,xR,H⟩:=H.dZ;have hmc:∀ b o,Me b=some o→Gc b=some o:=fun b o h=>Av b o (HV b o (hm2 b o (hm1 b o h)));have hge:=fun j v hj=>kL xR 0 E.cells rfl j v hj;have hgf:=fun j v hj=>aH Av (kL SV 0 F.cells rfl j v hj);have qR:=fun j v hj=>aH Av (aH HV (kL alv 0 [.slice aA an ac,.slice none 0 0] rfl j v hj));have alZ:=fun j v hj=>aH Av (aH HV (aH hm2 (kL ale 0 [.slice none 0 0,.slice aA an ac] rfl j v hj)));replace hR:=hR.mono hmc;replace hd:=hd.mono hmc;replace hd2:=hd2.mono hmc;replace hE:=hE.mono hmc;replace hF:=hF.mono hmc;replace hgd:=fun j v hj=>aH hmc (hgd j v hj)
 unfold yh at hE hF
 rw [av hcd] at hE;rw [av (by rw [Qy];exact hcd)] at hF;rw [hcd] at H;obtain ⟨hz2,p1,p2,p3,p4⟩:=abk (acc:=lsB l) (rej:=lsB []) hs hc;obtain ⟨hz3,q1,q2,q3,q4⟩:=abk (acc:=lsB []) (rej:=lsB l) hs hc;have hzn:=(UF (Iw (acc:=lsB l) (rej:=lsB []) hs (by decide) (by decide))).fl;have hzm:=(UF (Iw (acc:=lsB []) (rej:=lsB l) hs (by decide) (by decide))).fl
 have oh:∀ (aP:Nat) (v:aj) (G G':GH),(∀ k o,G k=some o→G' k=some o)→(fun (aP:Nat) (v:aj) (G:GH)=>match aP with|0=>v=vi 0|1=>v=.bool true|2=>v=.bool true|3=>v=vi 0|4=>v=.bool true|5=>v=.bool true|6=>v=.bool true|7=>v=.agg E.cells.toArray|8=>v=.agg D.cells.toArray|9=>v=.agg #[.slice aA an ac,.slice none 0 0]|10=>∃ M:gy,v=M.val∧iG G M (kN (lsB l) (lsB []) d)|11=>∃ M:gy,v=M.val∧iG G M (nD (kN (lsB l) (lsB []) d))|12=>v=.bool true|13=>v=.bool true|14=>v=.bool true|15=>v=.agg F.cells.toArray|16=>v=.agg D.cells.toArray|17=>v=.agg #[.slice none 0 0,.slice aA an ac]|18=>∃ M:gy,v=M.val∧iG G M (kN (lsB []) (lsB l) d)|19=>∃ M:gy,v=M.val∧iG G M (nD (kN (lsB []) (lsB l) d))|20=>v=.bool true|21=>v=.bool true|_=>True) aP v G→(fun (aP:Nat) (v:aj) (G:GH)=>match aP with|0=>v=vi 0|1=>v=.bool true|2=>v=.bool true|3=>v=vi 0|4=>v=.bool true|5=>v=.bool true|6=>v=.bool true|7=>v=.agg E.cells.toArray|8=>v=.agg D.cells.toArray|9=>v=.agg #[.slice aA an ac,.slice none 0 0]|10=>∃ M:gy,v=M.val∧iG G M (kN (lsB l) (lsB []) d)|11=>∃ M:gy,v=M.val∧iG G M (nD (kN (lsB l) (lsB []) d))|12=>v=.bool true|13=>v=.bool true|14=>v=.bool true|15=>v=.agg F.cells.toArray|16=>v=.agg D.cells.toArray|17=>v=.agg #[.slice none 0 0,.slice aA an ac]|18=>∃ M:gy,v=M.val∧iG G M (kN (lsB []) (lsB l) d)|19=>∃ M:gy,v=M.val∧iG G M (nD (kN (lsB []) (lsB l) d))|20=>v=.bool true|21=>v=.bool true|_=>True) aP v G':=by
  intro aP v G G' hm h
  match aP,h with
  | 0,h=>exact h
  | 1,h=>exact h
  | 2,h=>exact h
  | 3,h=>exact h
  | 4,h=>exact h
  | 5,h=>exact h
  | 6,h=>exact h
  | 7,h=>exact h
  | 8,h=>exact h
  | 9,h=>exact h
  | 10,h=>exact let ⟨M,h1,h2⟩:=h;⟨M,h1,h2.mono hm⟩
  | 11,h=>exact let ⟨M,h1,h2⟩:=h;⟨M,h1,h2.mono hm⟩
  | 12,h=>exact h
  | 13,h=>exact h
  | 14,h=>exact h
  | 15,h=>exact h
  | 16,h=>exact h
  | 17,h=>exact h
  | 18,h=>exact let ⟨M,h1,h2⟩:=h;⟨M,h1,h2.mono hm⟩
  | 19,h=>exact let ⟨M,h1,h2⟩:=h;⟨M,h1,h2.mono hm⟩
  | 20,h=>exact h
  | 21,h=>exact h
  | 22,h=>exact trivial
  | _+23,h=>exact trivial
 refine yR (hmx) [[],[0],[0,1],[0,1,2],(ra 0 4),(ra 0 5),(ra 0 6),(ra 0 7),(ra 0 7),(ra 0 7),(ra 0 7++[8,9]),(ra 0 7++[8,9,10]),(ra 0 12),(ra 0 13),(ra 0 14),(ra 0 15),(ra 0 15),(ra 0 15),(ra 0 15++[16,17]),(ra 0 15++[16,17,18]),(ra 0 20),(ra 0 21),(ra 0 22)] [22] (by kernel_rfl) (by kernel_rfl) (fun (aP:Nat) (v:aj) (G:GH)=>match aP with|0=>v=vi 0|1=>v=.bool true|2=>v=.bool true|3=>v=vi 0|4=>v=.bool true|5=>v=.bool true|6=>v=.bool true|7=>v=.agg E.cells.toArray|8=>v=.agg D.cells.toArray|9=>v=.agg #[.slice aA an ac,.slice none 0 0]|10=>∃ M:gy,v=M.val∧iG G M (kN (lsB l) (lsB []) d)|11=>∃ M:gy,v=M.val∧iG G M (nD (kN (lsB l) (lsB []) d))|12=>v=.bool true|13=>v=.bool true|14=>v=.bool true|15=>v=.agg F.cells.toArray|16=>v=.agg D.cells.toArray|17=>v=.agg #[.slice none 0 0,.slice aA an ac]|18=>∃ M:gy,v=M.val∧iG G M (kN (lsB []) (lsB l) d)|19=>∃ M:gy,v=M.val∧iG G M (nD (kN (lsB []) (lsB l) d))|20=>v=.bool true|21=>v=.bool true|_=>True) oh H ?_ ?_
 ·clear H;refine aF ?_ ?_ ?_ ?_ (aF ?_ ?_ ?_ ?_ (aF ?_ ?_ ?_ ?_ (aF ?_ ?_ ?_ ?_ (aF ?_ ?_ ?_ ?_ (bH ?_ (bH ?_ (bH (bQ rfl) cZ)))))))
  ·refine dB [] rfl trivial (by kernel_rfl) oh rfl rfl ?_;intro aR a w G1 hG HT H fin;exact kH H (Rm rfl fun _ H=>fin H iJ rfl)
  ·refine dB [(0,60,_)] rfl ⟨fun _ _ h=>h,aU⟩ (by kernel_rfl) oh rfl rfl ?_;intro aR a w G1 hG HT H fin;exact kH H (Rc rfl fun _ H=>fin H iJ rfl)
  ·refine dB [(1,61,_)] rfl ⟨fun _ _ h=>h,aU⟩ (by kernel_rfl) oh rfl rfl ?_;intro aR a w G1 hG HT H fin;exact kH H (Rm rfl fun _ H=>fin H iJ rfl)
  ·refine dB [(2,62,_)] rfl ⟨fun _ _ h=>h,aU⟩ (by kernel_rfl) oh rfl rfl ?_;intro aR a w G1 hG HT H fin;refine Fy H (wg H rfl rfl rfl) rfl rfl ?_;clear H;intro a H;exact fin H iJ rfl
  ·refine dB [(3,63,_),(2,62,_)] rfl ⟨fun _ _ h=>h,fun _ _ h=>h,aU⟩ (by kernel_rfl) oh rfl rfl ?_;intro aR a w G1 hG HT H fin;refine Fw H (wg H rfl rfl rfl) rfl rfl rfl rfl ?_;clear H;intro a H;exact fin H iJ rfl
  ·refine dB [(2,62,_),(4,64,_)] rfl ⟨fun _ _ h=>h,fun _ _ h=>h,aU⟩ (by kernel_rfl) oh rfl rfl ?_;intro aR a w G1 hG HT H fin;exact kH H (Pt rfl rfl fun _ H=>fin H iJ rfl)
  ·refine dB [(5,65,_)] rfl ⟨fun _ _ h=>h,aU⟩ (by kernel_rfl) oh rfl rfl ?_;intro aR a w G1 hG HT H fin;exact kH H (Rm rfl fun _ H=>fin H iJ rfl)
  ·refine dB [(6,66,_)] rfl ⟨fun _ _ h=>h,aU⟩ (by kernel_rfl) oh rfl rfl ?_;intro aR a w G1 hG HT H fin;refine aS fI (cs:=E.cells) H (wg H rfl rfl rfl) rfl rfl (fun j v hj=>H.hp.aI (aH hG (hge j v hj))) rfl ?_;clear H;intro a H;exact fin H iJ rfl
  ·refine dB [(6,66,_)] rfl ⟨fun _ _ h=>h,aU⟩ (by kernel_rfl) oh rfl rfl ?_;intro aR a w G1 hG HT H fin;refine aS fI (cs:=D.cells) H (wg H rfl rfl rfl) rfl rfl (fun j v hj=>H.hp.aI (aH hG (hgd j v hj))) rfl ?_;clear H;intro a H;exact fin H iJ rfl
  ·refine dB [(6,66,_)] rfl ⟨fun _ _ h=>h,aU⟩ (by kernel_rfl) oh rfl rfl ?_;intro aR a w G1 hG HT H fin;refine aS sI (cs:=[.slice aA an ac,.slice none 0 0]) H (wg H rfl rfl rfl) rfl rfl (fun j v hj=>H.hp.aI (aH hG (qR j v hj))) rfl ?_;clear H;intro a H;exact fin H iJ rfl
  ·refine dB [(8,68,_),(9,69,_),(6,66,_)] rfl ⟨fun _ _ h=>h,fun _ _ h=>h,fun _ _ h=>h,aU⟩ (by kernel_rfl) oh rfl rfl ?_;intro aR a w G1 hG HT H fin;refine s_call X8 H (wg H rfl rfl rfl) rfl (aaT _ _ H.ro D d (hR.mono hG) hs _ _ (hd.mono hG)) rfl ?_;clear H;rintro v70 G70 a w ⟨M70,rfl,akU⟩ akI H;exact fin H akI (⟨M70,rfl,akU⟩)
  ·intro aR a w G1 _ aL hc hG HT hv;have H:=HT;clear aL;obtain ⟨u70,TS,Kr⟩:=hv 10 70 (hc 10 (by decide)) rfl;(try dsimp only at Kr);obtain ⟨M,rfl,hM⟩:=Kr;have H:=H.gV TS;have H:=H.aN (hv 6 66 (hc 6 (by decide)) rfl) rfl;have Hb:=H.full;have H:=Hb;clear hc;refine s_call QZ H (wg H rfl rfl rfl) rfl (QO _ _ H.ro M _ hM hz2 p1 p2 p3 p4) rfl ?_;clear H;rintro v71 G71 a w ⟨M71,rfl,akV⟩ akJ H;refine aC ⟨rfl,?_⟩;exact dG (by kernel_rfl) oh rfl rfl HT Hb hG hv akJ (⟨M71,rfl,akV⟩) H
  ·intro aR a w G1 _ aL hc hG HT hv;have H:=HT;clear aL;have H:=H.aN (hv 7 67 (hc 7 (by decide)) rfl) rfl;obtain ⟨u71,anl,Z5⟩:=hv 11 71 (hc 11 (by decide)) rfl;(try dsimp only at Z5);obtain ⟨M,rfl,hM⟩:=Z5;have H:=H.gV anl;have H:=H.aN (hv 6 66 (hc 6 (by decide)) rfl) rfl;have Hb:=H.full;have H:=Hb;clear hc;refine s_call M7 H (wg H rfl rfl rfl) rfl (M5 _ _ H.ro E M _ _ (hE.mono hG) hM (by omega)) rfl ?_;clear H;rintro v72 G72 a w ⟨b72,rfl,als⟩ Sr H;obtain rfl:=als.2 rfl;refine aC ⟨rfl,?_⟩;exact dG (by kernel_rfl) oh rfl rfl HT Hb hG hv Sr (rfl) H
  ·refine dB [(6,66,_),(12,72,_)] rfl ⟨fun _ _ h=>h,fun _ _ h=>h,aU⟩ (by kernel_rfl) oh rfl rfl ?_;intro aR a w G1 hG HT H fin;exact kH H (Pt rfl rfl fun _ H=>fin H iJ rfl)
  ·refine dB [(13,73,_)] rfl ⟨fun _ _ h=>h,aU⟩ (by kernel_rfl) oh rfl rfl ?_;intro aR a w G1 hG HT H fin;exact kH H (Rm rfl fun _ H=>fin H iJ rfl)
  ·refine dB [(14,74,_)] rfl ⟨fun _ _ h=>h,aU⟩ (by kernel_rfl) oh rfl rfl ?_;intro aR a w G1 hG HT H fin;refine aS fI (cs:=F.cells) H (wg H rfl rfl rfl) rfl rfl (fun j v hj=>H.hp.aI (aH hG (hgf j v hj))) rfl ?_;clear H;intro a H;exact fin H iJ rfl
  ·refine dB [(14,74,_)] rfl ⟨fun _ _ h=>h,aU⟩ (by kernel_rfl) oh rfl rfl ?_;intro aR a w G1 hG HT H fin;refine aS fI (cs:=D.cells) H (wg H rfl rfl rfl) rfl rfl (fun j v hj=>H.hp.aI (aH hG (hgd j v hj))) rfl ?_;clear H;intro a H;exact fin H iJ rfl
  ·refine dB [(14,74,_)] rfl ⟨fun _ _ h=>h,aU⟩ (by kernel_rfl) oh rfl rfl ?_;intro aR a w G1 hG HT H fin;refine aS sI (cs:=[.slice none 0 0,.slice aA an ac]) H (wg H rfl rfl rfl) rfl rfl (fun j v hj=>H.hp.aI (aH hG (alZ j v hj))) rfl ?_;clear H;intro a H;exact fin H iJ rfl
  ·refine dB [(16,76,_),(17,77,_),(14,74,_)] rfl ⟨fun _ _ h=>h,fun _ _ h=>h,fun _ _ h=>h,aU⟩ (by kernel_rfl) oh rfl rfl ?_;intro aR a w G1 hG HT H fin;refine s_call X8 H (wg H rfl rfl rfl) rfl (aaT _ _ H.ro D d (hR.mono hG) hs _ _ (hd2.mono hG)) rfl ?_;clear H;rintro v78 Wo a w ⟨M78,rfl,akW⟩ JM H;exact fin H JM (⟨M78,rfl,akW⟩)
  ·intro aR a w G1 _ aL hc hG HT hv;have H:=HT;clear aL;obtain ⟨u78,anm,Z6⟩:=hv 18 78 (hc 18 (by decide)) rfl;(try dsimp only at Z6);obtain ⟨M,rfl,hM⟩:=Z6;have H:=H.gV anm;have H:=H.aN (hv 14 74 (hc 14 (by decide)) rfl) rfl;have Hb:=H.full;have H:=Hb;clear hc;refine s_call QZ H (wg H rfl rfl rfl) rfl (QO _ _ H.ro M _ hM hz3 q1 q2 q3 q4) rfl ?_;clear H;rintro v79 G79 a w ⟨M79,rfl,akX⟩ akL H;refine aC ⟨rfl,?_⟩;exact dG (by kernel_rfl) oh rfl rfl HT Hb hG hv akL (⟨M79,rfl,akX⟩) H
  ·intro aR a w G1 _ aL hc hG HT hv;have H:=HT;clear aL;have H:=H.aN (hv 15 75 (hc 15 (by decide)) rfl) rfl;obtain ⟨u79,ano,Z7⟩:=hv 19 79 (hc 19 (by decide)) rfl;(try dsimp only at Z7);obtain ⟨M,rfl,hM⟩:=Z7;have H:=H.gV ano;have H:=H.aN (hv 14 74 (hc 14 (by decide)) rfl) rfl;have Hb:=H.full;have H:=Hb;clear hc;refine s_call M7 H (wg H rfl rfl rfl) rfl (M5 _ _ H.ro F M _ _ (hF.mono hG) hM (by omega)) rfl ?_;clear H;rintro v80 G80 a w ⟨b80,rfl,Zi⟩ akM H;obtain rfl:=Zi.2 rfl;refine aC ⟨rfl,?_⟩;exact dG (by kernel_rfl) oh rfl rfl HT Hb hG hv akM (rfl) H
  refine dB [(14,74,_),(20,80,_)] rfl ⟨fun _ _ h=>h,fun _ _ h=>h,aU⟩ (by kernel_rfl) oh rfl rfl ?_;intro aR a w G1 hG HT H fin;exact kH H (Pt rfl rfl fun _ H=>fin H iJ rfl)
 clear H;intro a w G Ny H hv;have H:=H.aN (hv 21 81 rfl rfl) rfl;clear hv;refine kH H (Ra rfl ?_);clear H;intro a H;refine aC ⟨rfl,?_⟩;refine zW _ _ ?_;clear zW;refine lr H results5 rfl ?_;exact H.rt (by first|rfl|(simp_all;done))
end
end Go.Proofs.YtdiflmikikiedaaGreat
