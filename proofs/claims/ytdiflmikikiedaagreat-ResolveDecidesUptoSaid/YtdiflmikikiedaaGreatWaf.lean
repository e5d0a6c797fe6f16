/-
  What the claim stands on, part 6: Hg24 Ne13 Npre Rv24 Dx24 Cd24 Wh24 Dn Mw24 Kt Par Pas L14 L14b L14c It Div Nrm L14d L14e Sl Sm16 Kn24 Eqi En Stq Dms Deq Rl24 Brd.
-/
import Derived.Test.YtdiflmikikiedaaGreatWae
import Derived.ProofKit
import Derived.Deep.Slices
import Derived.Laws.StructEq
namespace Go.Proofs.YtdiflmikikiedaaGreat
set_option linter.all false
open Go.Proofs.Tryz
set_option maxRecDepth 20000
set_option maxHeartbeats 4000000
section
open Go.RowKit
theorem abg {α:Type} {l:List α} {R:α→α→Prop} (htr:∀ a b c,R a b→R b c→R a c) (h:∀ k (hk:k+1 < l.length),R l[k] l[k+1]):l.Pairwise R:=by
 rw [List.pairwise_iff_getElem];intro i j hi hj hij
 induction j with
 | zero=>omega
 | succ j ih =>
  by_cases e:i=j
  ·subst e;exact h i hj
  exact htr _ _ _ (ih (by omega) (by omega)) (h j hj)
def Wo (C:bN) (e k v:Int):Prop:=rG e k=true∧rC k v=0∧nP C.st C.uL k v=0
def xB (C:bN) (e:Int) (l:List aT):Prop:=(∀ p∈l,Wo C e p.key p.value)∧l.Pairwise fun x y=>x.key < y.key
def yG (C:bN) (e k:Int) (s:Int × Bool):Prop:=rG e k=true∧(s.2=true→rC k s.1=0∧nP C.st C.uL k s.1=0)∧(s.2=false→s.1=0)
def F4 (C:bN) (e:Int) (y:cK):Prop:=y.rev∈C.zI∧yG C e y.key (y.before,y.had)
structure PO (C:bN) (e:Int) (h:dW):Prop where
 el:1≤e∧e≤10
 ps:xB C e h.props
 mrk:(h.marks.ins≠0→h.marks.ins∈C.zI)∧(0≤h.marks.move∧h.marks.move≤1073741824)∧(h.marks.move≠0→h.marks.ins≠0)∧h.marks.bL.length≤16
 dl:(∀ x∈h.marks.bL,x.rev∈C.zI∧0≤x.move∧x.move≤1073741824)∧h.marks.bL.Pairwise fun x y=>x.rev < y.rev
 ln:h.marks.layers.length≤64
 ly:(∀ y∈h.marks.layers,F4 C e y)∧h.marks.layers.Pairwise fun x y=>x.key≤y.key
theorem Qo (e:Int):∀ (l:List aT) (q:Option Int),xH e q l=0↔(∀ p∈l,rG e p.key=true∧rC p.key p.value=0)∧(l.Pairwise fun x y=>x.key < y.key)∧∀ j,q=some j→∀ p∈l,j < p.key
 | [],q=>by simp [xH]
 | p :: r,q=>by
  rw [xH];have ih:=Qo e r (some p.key)
  constructor
  ·intro h
   split at h
   ·cases h
   rename_i h1
   split at h
   ·cases h
   rename_i h2
   split at h
   ·cases h
   rename_i h3
   split at h
   ·rename_i h4
    obtain ⟨a,b,c⟩:=ih.1 h
    have hq:∀ j,q=some j→j < p.key:=fun j e=>by
     subst e;rw [Du,lS] at h3;have:j≠p.key:=fun e=>h2 (by rw [e])
     omega
    refine ⟨fun x hx=>?_,?_,fun j e x hx=>?_⟩
    ·rcases kg.1 hx with rfl|hx
     ·exact ⟨by simpa using h1,h4⟩
     exact a x hx
    ·exact uY.2 ⟨fun y hy=>c _ rfl y hy,b⟩
    rcases kg.1 hx with rfl|hx
    ·exact hq j e
    exact Int.lt_trans (hq j e) (c _ rfl x hx)
   rename_i h4;exact absurd h h4
  rintro ⟨a,b,c⟩;obtain ⟨b1,b2⟩:=uY.1 b;obtain ⟨a1,a2⟩:=a p fK;rw [ah (by simp [a1]),ah (fun e=>by have:=c _ e p fK;omega),ah,av a2]
  ·exact ih.2 ⟨fun x hx=>a x (gB _ hx),b2,fun j e x hx=>by cases e;exact b1 x hx⟩
  intro hl
  cases q with
  | none=>cases hl
  | some j =>
   rw [Du,lS] at hl;have:=c j rfl p fK;omega
theorem Y5 (C:bN) (e:Int) (h:dW):gQ C e h=0↔PO C e h:=by
 constructor
 ·intro hE;have z:=lG hE;have z1:=z (gL e h.props) (by simp);have z2:=z (zH C h.props) (by simp);have z3:=z (jG C h.marks) (by simp);have z4:=z (iF (sQ C h.marks.bL) h.marks.bL.length) (by simp);have z5:=z (dx (decide (64 < (h.marks.layers.length:Int))) 9) (by simp);have z6:=z (iF (xP C e h.marks.layers) h.marks.layers.length) (by simp)
  unfold gL at z1
  have hel:¬ (e < 1∨10 < e):=fun h=>by rw [av h] at z1;cases z1
  rw [ah hel,Qo] at z1
  unfold jG at z3
  have hD:∀ k (hk:k < h.marks.bL.length),sS C k h.marks.bL[k] ((h.marks.bL[k - 1]?.map fF.rev).getD 0)=0:=fun k hk=>by
   have h5:=Ee z4 k hk
   unfold sQ at h5
   rwa [eO hk] at h5
  have hL:∀ k (hk:k < h.marks.layers.length),vT C e k h.marks.layers[k] ((h.marks.layers[k - 1]?.map cK.key).getD 0)=0:=fun k hk=>by
   have h5:=Ee z6 k hk
   unfold xP at h5
   rwa [eO hk] at h5
  refine ⟨by omega,⟨fun p hp=>⟨(z1.1 p hp).1,(z1.1 p hp).2,?_⟩,z1.2.1⟩,?_,⟨fun x hx=>?_,abg (fun a b c=>Int.lt_trans) fun k hk=>?_⟩,?_,⟨fun y hy=>?_,abg (fun a b c=>Int.le_trans) fun k hk=>?_⟩⟩
  ·exact lG z2 _ (List.mem_map.2 ⟨p,hp,rfl⟩)
  ·split at z3
   ·cases z3
   rename_i a1
   split at z3
   ·cases z3
   rename_i a2
   split at z3
   ·cases z3
   rename_i a3
   exact ⟨fun h0=>Decidable.byContradiction fun hn=>a1 ⟨h0,hn⟩,by omega,by omega,by omega⟩
  ·obtain ⟨k,hk,rfl⟩:=List.getElem_of_mem hx;have h6:=hD k hk
   unfold sS at h6
   split at h6
   ·cases h6
   rename_i a1
   split at h6
   ·cases h6
   split at h6
   ·cases h6
   rename_i a3
   exact ⟨nK.1 a1,by omega⟩
  ·have h6:=hD (k+1) hk;rw [Nat.add_sub_cancel,eO (by omega:k < h.marks.bL.length)] at h6
   unfold sS at h6
   split at h6
   ·cases h6
   split at h6
   ·cases h6
   rename_i a2
   simp only [uf,Option.getD_some] at a2
   omega
  ·unfold dx at z5
   split at z5
   ·cases z5
   rename_i a;simp only [lS] at a;omega
  ·obtain ⟨k,hk,rfl⟩:=List.getElem_of_mem hy;have h6:=hL k hk
   unfold vT at h6
   split at h6
   ·cases h6
   rename_i a1
   split at h6
   ·cases h6
   rename_i a2
   split at h6
   ·cases h6
   refine ⟨nK.1 a1,by simpa using a2,fun ht=>?_,fun hf=>?_⟩
   ·dsimp only at ht;rw [ah (by rw [ht];decide)] at h6;exact ⟨lG h6 _ fK,lG h6 _ (by simp)⟩
   dsimp only at hf;rw [av hf,wZ (by decide)] at h6
   simpa using h6
  have h6:=hL (k+1) hk;rw [Nat.add_sub_cancel,eO (by omega:k < h.marks.layers.length)] at h6
  unfold vT at h6
  split at h6
  ·cases h6
  split at h6
  ·cases h6
  split at h6
  ·cases h6
  rename_i a2
  simp only [uf,Option.getD_some] at a2
  omega
 rintro ⟨hel,⟨hp,hps⟩,⟨m1,m2,m3,m4⟩,⟨d1,d2⟩,hln,⟨l1,l2⟩⟩;refine M4 fun x hx=>?_
 simp only [kg,List.not_mem_nil,or_false] at hx
 rcases hx with rfl|rfl|rfl|rfl|rfl|rfl
 ·unfold gL
  rw [ah (by omega),Qo];exact ⟨fun p h=>⟨(hp p h).1,(hp p h).2.1⟩,hps,fun j e=>by cases e⟩
 ·refine M4 fun x hx=>?_;obtain ⟨p,h1,rfl⟩:=List.mem_map.1 hx;exact (hp p h1).2.2
 ·unfold jG
  rw [ah fun h=>h.2 (m1 h.1),ah fun h=>h.elim (fun h=>h m2) fun h=>m3 h.1 h.2,ah (by omega)]
 ·refine Wx fun k hk=>?_
  unfold sQ
  rw [eO hk];dsimp only [sS];have:=d1 _ (lD hk);rw [ah fun h=>h this.1,ah,ah fun h=>h this.2];rintro ⟨h0,h1⟩;rw [eO (by omega:k - 1 < h.marks.bL.length)] at h1;have:=List.pairwise_iff_getElem.1 d2 (k - 1) k (by omega) hk (by omega)
  simp only [uf,Option.getD_some] at h1
  omega
 ·rw [wZ (by decide),mM];omega
 refine Wx fun k hk=>?_
 unfold xP
 rw [eO hk];dsimp only [vT];obtain ⟨a1,a2,a3,a4⟩:=l1 _ (lD hk);rw [ah fun h=>h a1,ah (by simp [a2]),ah]
 ·split
  ·rename_i hf
   rw [wZ (by decide)];have:=a4 hf
   simpa using this
  rename_i hf
  obtain ⟨b1,b2⟩:=a3 (by simpa using hf);exact RB.2 ⟨b1,b2⟩
 rintro ⟨h0,h1⟩;rw [eO (by omega:k - 1 < h.marks.layers.length)] at h1;have:=List.pairwise_iff_getElem.1 l2 (k - 1) k (by omega) hk (by omega)
 simp only [uf,Option.getD_some] at h1
 omega
theorem YT {l:List aT} {k:Int} (h:nM (l.map aT.key) k=true):∃ hi:gW (l.map aT.key) k < l.length,l[gW (l.map aT.key) k].key=k:=by
 have h1:=JL h;rw [bM] at h1;have h2:=mE h;rw [qM,eO h1] at h2;exact ⟨h1,by simpa using h2⟩
theorem ajR {C:bN} {e:Int} {l:List aT} (hp:xB C e l) {k:Int} (hf:rG e k=true):yG C e k (yN l k):=by
 unfold yN
 split
 ·rename_i h
  obtain ⟨h1,h2⟩:=YT h;have:=(hp.1 _ (lD h1)).2;rw [h2] at this;rw [List.getD_eq_getElem?_getD,eO h1];exact ⟨hf,fun _=>this,fun h=>by cases h⟩
 exact ⟨hf,fun h=>(by cases h),fun _=>rfl⟩
theorem acd {C:bN} {e k:Int} (hf:rG e k=true):yG C e k (0,false):=⟨hf,fun h=>(by cases h),fun _=>rfl⟩
theorem adP {l:List aT} (hs:l.Pairwise fun x y=>x.key < y.key) (k:Int):(∀ p∈l.take (gW (l.map aT.key) k),p.key < k)∧∀ p∈l.drop (gW (l.map aT.key) k),k≤p.key:=by
 have hle:=Eh (l.map aT.key) k;rw [bM] at hle;have hp:(l.map aT.key).Pairwise (·≤·):=List.pairwise_map.2 (hs.imp fun h=>Int.le_of_lt h);obtain ⟨r1,r2⟩:=WH hp k;refine ⟨fun p h=>?_,fun p h=>?_⟩
 ·obtain ⟨i,hi,rfl⟩:=List.getElem_of_mem h;rw [List.length_take] at hi;have:=r1 i (by rw [bM];omega) (by omega);rw [List.getElem_map] at this;rw [List.getElem_take];exact this
 obtain ⟨i,hi,rfl⟩:=List.getElem_of_mem h;rw [List.length_drop] at hi;have h1:=r2 (by rw [bM];omega);rw [List.getElem_map] at h1;rw [List.getElem_drop]
 by_cases e:i=0
 ·subst e;exact h1
 have:=List.pairwise_iff_getElem.1 hs (gW (l.map aT.key) k) (gW (l.map aT.key) k+i) (by omega) (by omega) (by omega)
 omega
theorem afj {C:bN} {e:Int} {l:List aT} (hp:xB C e l) (k:Int):xB C e (CU l k):=by
 unfold CU
 split
 ·have hs:(l.take (gW (l.map aT.key) k)++l.drop (gW (l.map aT.key) k+1)).Sublist l:=by
   conv=>rhs;rw [← List.take_append_drop (gW (l.map aT.key) k) l]
   exact List.Sublist.append (jR _) (by rw [← List.drop_drop];exact List.drop_sublist _ _)
  exact ⟨fun p h=>hp.1 p (hs.subset h),hp.2.sublist hs⟩
 exact hp
theorem aqE {C:bN} {e:Int} {l:List aT} (hp:xB C e l) {k v:Int} (hk:Wo C e k v):xB C e (DL l k v):=by
 obtain ⟨b1,b2⟩:=adP hp.2 k
 unfold DL
 split
 ·rename_i h
  obtain ⟨h1,h2⟩:=YT h;rw [List.getD_eq_getElem?_getD,eO h1,Option.getD_some,h2];refine ⟨fun p hpm=>?_,?_⟩
  ·rcases List.mem_or_eq_of_mem_set hpm with h|rfl
   ·exact hp.1 p h
   exact hk
  have e:(l.set (gW (l.map aT.key) k) ⟨k,v⟩).map aT.key=l.map aT.key:=by
   rw [List.map_set];refine List.ext_getElem (by simp) fun i h3 h4=>?_;rw [List.getElem_set]
   split
   ·rename_i hi;subst hi;rw [List.getElem_map,h2]
   rfl
  have:=List.pairwise_map.2 hp.2;rw [← e] at this;exact List.pairwise_map.1 this
 rename_i h
 have hne:∀ p∈l,p.key≠k:=fun p hpm he=>by
  rw [akC (List.pairwise_map.2 (hp.2.imp fun h=>Int.le_of_lt h)),lS] at h;exact h (List.mem_map.2 ⟨p,hpm,he⟩)
 refine ⟨fun p hpm=>?_,?_⟩
 ·rcases nV.1 hpm with h|h
  ·exact hp.1 p (List.mem_of_mem_take h)
  rcases kg.1 h with rfl|h
  ·exact hk
  exact hp.1 p (List.mem_of_mem_drop h)
 rw [List.pairwise_append];refine ⟨hp.2.sublist (List.take_sublist _ _),uY.2 ⟨fun p h=>?_,hp.2.sublist (List.drop_sublist _ _)⟩,fun p h q hq=>?_⟩
 ·have h1:=b2 p h;have h2:=hne p (List.mem_of_mem_drop h)
  show k < p.key
  omega
 have h1:=b1 p h
 rcases kg.1 hq with rfl|hq
 ·exact h1
 have h2:=b2 q hq
 show p.key < q.key
 omega
theorem ase {C:bN} {e:Int} {l:List aT} (hp:xB C e l) {k:Int} {s:Int × Bool} (hs:yG C e k s):xB C e (yu l k s):=by
 unfold yu
 split
 ·rename_i h
  exact aqE hp ⟨hs.1,hs.2.1 h⟩
 exact afj hp k
theorem TV {C:bN} {e:Int} (rej:Int→Bool) {vZ:List (Int × Bool)} {k:Int} (hf:rG e k=true) (hst:∀ s∈vZ,yG C e k s):∀ (l:List cK) (j:Nat) (now:Int × Bool),(∀ y∈l,y.key=k∧y.rev∈C.zI)→yG C e k now →
  (∀ y∈(vQ rej vZ l j now).1,y.key=k∧F4 C e y∧∃ z∈l,z.rev=y.rev∧rej z.rev=false)∧yG C e k (vQ rej vZ l j now).2
 | [],_,_,_,hn=>by rw [vQ];exact ⟨fun y h=>(by cases h),hn⟩
 | y :: r,j,now,hl,hn=>by
  obtain ⟨h1,h2⟩:=hl y fK;have hl2:=fun z hz=>hl z (gB _ hz);rw [vQ]
  split
  ·obtain ⟨a,b⟩:=TV rej hf hst r (j+1) now hl2 hn;refine ⟨fun z hz=>?_,b⟩;obtain ⟨c1,c2,x,c3,c4⟩:=a z hz;exact ⟨c1,c2,x,gB _ c3,c4⟩
  rename_i hr
  have hg:yG C e k (vZ.getD (j+1) (0,false)):=by
   rw [List.getD_eq_getElem?_getD]
   cases hx:vZ[j+1]? with
   | none=>exact acd hf
   | some s=>exact hst s (ko hx)
  obtain ⟨a,b⟩:=TV rej hf hst r (j+1) _ hl2 hg;refine ⟨fun z hz=>?_,b⟩
  rcases kg.1 hz with rfl|hz
  ·refine ⟨h1,⟨h2,?_⟩,y,fK,rfl,by simpa using hr⟩;dsimp only;rw [h1];exact hn
  obtain ⟨c1,c2,x,c3,c4⟩:=a z hz;exact ⟨c1,c2,x,gB _ c3,c4⟩
theorem RJ (acc:Int→Bool):∀ (l:List cK) (k c:Nat),c≤k→c≤mQ acc l k c
 | [],k,c,_=>by rw [mQ];exact bP _
 | y :: r,k,c,h=>by
  rw [mQ]
  split
  ·have:=RJ acc r (k+1) (k+1) (bP _);omega
  exact RJ acc r (k+1) c (by omega)
theorem Yy (acc:Int→Bool):∀ (l:List cK) (k c:Nat),c≤k→∀ y∈l.drop (mQ acc l k c - k),acc y.rev=false
 | [],_,_,_,y,h=>by rw [List.drop_nil] at h;cases h
 | x :: r,k,c,hc,y,h=>by
  rw [mQ] at h
  have hc2:(if acc x.rev=true then k+1 else c)≤k+1:=by split <;> omega
  have ih:=Yy acc r (k+1) (if acc x.rev=true then k+1 else c) hc2;have hge:=RJ acc r (k+1) (if acc x.rev=true then k+1 else c) hc2
  by_cases hk:mQ acc r (k+1) (if acc x.rev=true then k+1 else c)≤k
  ·rw [show mQ acc r (k+1) (if acc x.rev=true then k+1 else c) - k=0 by omega,List.drop_zero] at h;rw [show mQ acc r (k+1) (if acc x.rev=true then k+1 else c) - (k+1)=0 by omega,List.drop_zero] at ih
   rcases kg.1 h with rfl|h
   ·cases ha:acc y.rev
    ·rfl
    rw [av ha] at hge hk;omega
   exact ih y h
  rw [show mQ acc r (k+1) (if acc x.rev=true then k+1 else c) - k=(mQ acc r (k+1) (if acc x.rev=true then k+1 else c) - (k+1))+1 by omega,List.drop_succ_cons] at h;exact ih y h
theorem ajX {C:bN} {e:Int} (acc rej:Int→Bool) {props:List aT} (hp:xB C e props) {k:Int} {l:List cK} (hne:l≠[]) (hl:∀ y∈l,y.key=k∧F4 C e y) :
  (∀ y∈(qE acc rej props k l).1,y.key=k∧F4 C e y∧∃ z∈l,z.rev=y.rev∧rej z.rev=false∧acc z.rev=false)∧yG C e k (qE acc rej props k l).2:=by
 have hf:rG e k=true:=by
  obtain ⟨y,r,rfl⟩:=List.exists_cons_of_ne_nil hne;obtain ⟨h1,-,h2,-⟩:=hl y fK;rw [← h1];exact h2
 have hst:∀ s∈pF props k l,yG C e k s:=fun s hs=>by
  unfold pF at hs
  rcases nV.1 hs with hs|hs
  ·obtain ⟨y,hy,rfl⟩:=List.mem_map.1 hs;obtain ⟨h1,-,h2⟩:=hl y hy;rw [← h1];exact h2
  rw [sN.1 hs];exact ajR hp hf
 unfold qE
 have hn:yG C e k ((pF props k l).getD (mQ acc l 0 0) (0,false)):=by
  rw [List.getD_eq_getElem?_getD]
  cases hx:(pF props k l)[mQ acc l 0 0]? with
  | none=>exact acd hf
  | some s=>exact hst s (ko hx)
 obtain ⟨a,b⟩:=TV rej hf hst (l.drop (mQ acc l 0 0)) (mQ acc l 0 0) _ (fun y hy=>⟨(hl y (List.mem_of_mem_drop hy)).1,(hl y (List.mem_of_mem_drop hy)).2.1⟩) hn;refine ⟨fun y hy=>?_,b⟩;obtain ⟨c1,c2,x,c3,c4⟩:=a y hy;exact ⟨c1,c2,x,List.mem_of_mem_drop c3,c4.1,c4.2,Yy acc l 0 0 (bP _) x (by simpa using c3)⟩
theorem YE:∀ (f:Nat) (l:List cK),∀ q∈pR f l,∀ y∈q.2,y.key=q.1
 | 0,_,q,hq=>by cases hq
 | f+1,[],q,hq=>by cases hq
 | f+1,y :: r,q,hq=>by
  rw [pR] at hq
  rcases kg.1 hq with rfl|hq
  ·intro z hz
   rcases kg.1 hz with rfl|hz
   ·rfl
   have:=List.all_takeWhile (l:=r) (p:=fun z=>decide (z.key=y.key));rw [jQ] at this
   simpa using this z hz
  exact YE f _ q hq
theorem Xm {C:bN} {e:Int} (acc rej:Int→Bool) {props:List aT} (hp:xB C e props):∀ (L:List (Int × List cK)) (s:List aT × List cK),xB C e s.1→(∀ q∈L,q.2≠[]∧∀ y∈q.2,y.key=q.1∧F4 C e y) →
  xB C e (vw acc rej props L s).1∧∃ m,(vw acc rej props L s).2=s.2++m∧(m.map cK.key).Sublist ((L.flatMap Prod.snd).map cK.key)∧∀ y∈m,F4 C e y∧∃ z∈L.flatMap Prod.snd,z.rev=y.rev∧rej z.rev=false∧acc z.rev=false
 | [],s,h,_=>by rw [vw];exact ⟨h,[],by simp,jR _,fun y h=>by cases h⟩
 | (k,l) :: r,s,h,hL=>by
  obtain ⟨h1,h2⟩:=hL (k,l) fK;obtain ⟨a,b⟩:=ajX acc rej hp h1 h2;have hln:=RN acc rej props k l;rw [vw];obtain ⟨c,m,d1,d2,d3⟩:=Xm acc rej hp r (yu s.1 k (qE acc rej props k l).2,s.2++(qE acc rej props k l).1) (ase h b) fun q hq=>hL q (gB _ hq);refine ⟨c,(qE acc rej props k l).1++m,by rw [d1,iZ],?_,fun y hy=>?_⟩
  ·rw [List.flatMap_cons,kM,kM];refine List.Sublist.append ?_ d2;have e1:(qE acc rej props k l).1.map cK.key=List.replicate (qE acc rej props k l).1.length k:=List.eq_replicate_iff.2 ⟨by simp,fun x hx=>by obtain ⟨y,hy,rfl⟩:=List.mem_map.1 hx;exact (a y hy).1⟩;have e2:l.map cK.key=List.replicate l.length k:=List.eq_replicate_iff.2 ⟨by simp,fun x hx=>by obtain ⟨y,hy,rfl⟩:=List.mem_map.1 hx;exact (h2 y hy).1⟩;rw [e1,e2];exact (List.replicate_sublist_replicate k).2 hln
  rw [List.flatMap_cons]
  rcases nV.1 hy with hy|hy
  ·obtain ⟨-,c2,x,c3,c4⟩:=a y hy;exact ⟨c2,x,nV.2 (.inl c3),c4⟩
  obtain ⟨c2,x,c3,c4⟩:=d3 y hy;exact ⟨c2,x,nV.2 (.inr c3),c4⟩
theorem afx {C:bN} {e:Int} (acc rej:Int→Bool) {h:dW} (hh:PO C e h):PO C e (lF acc rej h)∧∀ y∈(lF acc rej h).marks.layers,∃ z∈h.marks.layers,z.rev=y.rev∧rej z.rev=false∧acc z.rev=false:=by
 obtain ⟨hel,hps,⟨m1,m2,m3,m4⟩,⟨d1,d2⟩,hln,⟨l1,l2⟩⟩:=hh;obtain ⟨f1,f2⟩:=Jv h.marks.layers.length h.marks.layers (bP _);obtain ⟨a,m,b1,b2,b3⟩:=Xm acc rej hps (pR h.marks.layers.length h.marks.layers) (h.props,[]) hps fun q hq=>⟨f2 q hq,fun y hy=>⟨YE _ _ q hq y hy,l1 y (by rw [← f1];exact List.mem_flatMap.2 ⟨q,hq,hy⟩)⟩⟩;rw [f1] at b2 b3;rw [oD] at b1;have hsub:=List.filter_sublist (p:=fun x:fF=>!rej x.rev) (l:=h.marks.bL);have hlen:=b2.length_le;rw [bM,bM] at hlen
 have hmk:(if tK acc h then 0 else h.marks.ins)=0∧(if tK acc h then 0 else h.marks.move)=0∨(if tK acc h then 0 else h.marks.ins)=h.marks.ins∧(if tK acc h then 0 else h.marks.move)=h.marks.move:=by
  by_cases hi:tK acc h
  ·exact .inl ⟨av hi,av hi⟩
  exact .inr ⟨ah hi,ah hi⟩
 refine ⟨⟨hel,a,?_,⟨fun x hx=>d1 x (hsub.subset hx),d2.sublist hsub⟩,?_,⟨fun y hy=>?_,?_⟩⟩,fun y hy=>?_⟩
 ·have hd:=hsub.length_le
  unfold lF
  dsimp only
  rcases hmk with ⟨e1,e2⟩|⟨e1,e2⟩
  ·rw [e1,e2];exact ⟨fun h=>absurd rfl h,by omega,fun h=>absurd rfl h,by omega⟩
  rw [e1,e2];exact ⟨m1,m2,m3,by omega⟩
 ·unfold lF;dsimp only;rw [b1];omega
 ·unfold lF at hy;dsimp only at hy;rw [b1] at hy;exact (b3 y hy).1
 ·unfold lF;dsimp only;rw [b1]
  exact List.pairwise_map.1 ((List.pairwise_map.2 l2).sublist b2)
 unfold lF at hy;dsimp only at hy;rw [b1] at hy;exact (b3 y hy).2
theorem MN {C:bN} {e:Int} (acc rej:Int→Bool) {h:dW} (hh:gQ C e h=0):gQ C e (lF acc rej h)=0:=(Y5 C e _).2 (afx acc rej ((Y5 C e h).1 hh)).1
end
section
open Go.RowKit
def P7 (l:List bX):Prop:=l.length≤256∧(∀ x∈l,wB x.author=true∧(0≤x.time∧x.time≤1099511627776)∧1≤x.id∧x.id≤1073741824)∧l.Pairwise fun x y=>x.id < y.id
theorem P7.sub {l m:List bX} (h:P7 l) (hs:m.Sublist l):P7 m:=⟨Nat.le_trans hs.length_le h.1,fun x hx=>h.2.1 x (hs.subset hx),h.2.2.sublist hs⟩
def uF (A:List oM):Int:=(A.map fun f=>Dq f.items).sum
theorem Vj (a b:List oM):uF (a++b)=uF a+uF b:=by simp [uF]
theorem Ph (x:oM) (b:List oM):uF (x :: b)=Dq x.items+uF b:=by simp [uF]
theorem arE (A:List oM):La A=uF A:=by
 have key:∀ (A:List oM) (n:Int),A.foldl (fun n f=>n+Dq f.items) n=n+uF A:=by
  intro A
  induction A with
  | nil=>intro n;simp [uF]
  | cons x A ih=>intro n;rw [List.foldl_cons,ih,Ph];omega
 rw [La,key];omega
theorem Ua {C:bN} {body note:Bool} {t:Int} {l:List ay} (h:jg C body note t l):Dq l=Fy l:=by
 unfold Dq
 rw [av]
 unfold MR
 rw [jQ];intro x hx;have h1:=(Et ((Oo x).1 (Cc.1 h x hx)).1).1;refine iQ ?_
 unfold Lb IG;rw [av h1];split <;> rfl
theorem arD (k c i:Int) (tx:ByteArray) (h:dW) (f:List ay) (r:List aV):uI (.mk k c i tx h f r)=jl (.mk k c i tx h f r)+(if k=6 then jw f else if k=7 then ng r else 0):=by rw [uI];rfl
mutual
theorem arG (C:bN) (body note:Bool) (t:Int) (n2:Bool) (t2:Int):∀ x:ay,mX C body note t x→(jl x:Nat)+uF (Lj n2 t2 x)=(uI x:Nat)
 | .mk k c i tx h f r,hx=>by
  have hf:=Pk C false true t true t2 f;have hr:=acB C note (t+1) n2 t2 r;rw [mX] at hx;rw [arD,Lj]
  by_cases h6:k=6
  ·subst h6;have ho:=hx.2.2.2.1 rfl;have:=hf ho;rw [av rfl,av rfl,Ph];dsimp only;rw [Ua ho];push_cast;omega
  by_cases h7:k=7
  ·subst h7;have:=hr (hx.2.2.2.2 rfl).2;rw [ah h6,ah h6,av rfl,av rfl];push_cast;omega
  rw [ah h6,ah h6,ah h7,ah h7];simp [uF]
theorem arH (C:bN) (note:Bool) (t:Int) (n2:Bool) (t2:Int):∀ x:aV,rV C note t x→uF (Ll n2 t2 x)=(uR x:Nat)
 | .mk h cs,hx=>by
  have hc:=acz C note t n2 t2 cs;rw [rV] at hx;rw [uR,Ll];exact hc hx.2
theorem arF (C:bN) (note:Bool) (t:Int) (n2:Bool) (t2:Int):∀ x:bB,rU C note t x→uF (Lg n2 t2 x)=(uC x:Nat)
 | .mk i h f,hx=>by
  have hf:=Pk C false note t n2 (t2+1) f;rw [rU] at hx;have:=hf hx.2;rw [uC,Lg,Ph];dsimp only;rw [Ua hx.2];omega
theorem Pk (C:bN) (body note:Bool) (t:Int) (n2:Bool) (t2:Int):∀ l:List ay,jg C body note t l→(Fy l:Nat)+uF (Ba n2 t2 l)=(jw l:Nat)
 | [],_=>by simp [Fy,Ba,uF,jw]
 | x :: l,h=>by
  rw [jg] at h;have h1:=arG C body note t n2 t2 x h.1;have h2:=Pk C body note t n2 t2 l h.2;rw [Fy,Ba,jw,Vj];push_cast;omega
theorem acB (C:bN) (note:Bool) (t:Int) (n2:Bool) (t2:Int):∀ l:List aV,lH C note t l→uF (DV n2 t2 l)=(ng l:Nat)
 | [],_=>by simp [DV,uF,ng]
 | x :: l,h=>by
  rw [lH] at h;have h1:=arH C note t n2 t2 x h.1;have h2:=acB C note t n2 t2 l h.2;rw [DV,ng,Vj];push_cast;omega
theorem acz (C:bN) (note:Bool) (t:Int) (n2:Bool) (t2:Int):∀ l:List bB,mK C note t l→uF (DU n2 t2 l)=(nS l:Nat)
 | [],_=>by simp [DU,uF,nS]
 | x :: l,h=>by
  rw [mK] at h;have h1:=arF C note t n2 t2 x h.1;have h2:=acz C note t n2 t2 l h.2;rw [DU,nS,Vj];push_cast;omega
end
theorem acA {C:bN} {body note:Bool} {t:Int} {l:List ay} (h:jg C body note t l):La (GY l)=(jw l:Nat):=by
 have:=Pk C body note t false 0 l h;rw [arE,GY,Ph];dsimp only;rw [Ua h];exact this
theorem anO {d:gI} (h:jc d=0):jc (xQ d)=0∧La (GY (lX d.flow))=La (GY d.flow):=by
 obtain ⟨h1,h2,h3,h4,h5⟩:=(MG d).1 h;obtain ⟨e1,e2⟩:=amO h3;exact ⟨(MG (xQ d)).2 ⟨h1,h2,aaU h3,by show jJ [] [] (iO (lX d.flow));rw [e1];exact h4,by show jw (lX d.flow)≤_;rw [e2];exact h5⟩,by rw [acA (aaU h3),acA h3,e2]⟩
end
section
open Go.RowKit
mutual
theorem anX (C:bN) (body note:Bool) (t:Int):∀ x:ay,mX C body note t x→Ii x
 | .mk k c i tx h f r,hx=>by
  have hf:=Oi C false true t f;have hr:=aaN C note (t+1) r;rw [mX] at hx;obtain ⟨-,-,ZQ,Y6⟩:=Et hx.1;dsimp only [ay.kind,ay.rows,ay.flow] at ZQ Y6;rw [Ii];refine ⟨?_,?_⟩
  ·by_cases h6:k=6
   ·exact hf (hx.2.2.2.1 h6)
   rw [Y6 h6,tN];trivial
  by_cases h7:k=7
  ·exact hr (hx.2.2.2.2 h7).2
  rw [ZQ h7,Ca];trivial
theorem anY (C:bN) (note:Bool) (t:Int):∀ x:aV,rV C note t x→Dy x
 | .mk h cs,hx=>by
  have hc:=aaM C note t cs;rw [rV] at hx;rw [Dy];refine ⟨fun e=>?_,hc hx.2⟩;have z:=lG hx.1 (dx (decide ((cs.length:Int)=0)) 11) (by simp);rw [wZ (by decide),e] at z
  simp at z
theorem anW (C:bN) (note:Bool) (t:Int):∀ x:bB,rU C note t x→Dw x
 | .mk i h f,hx=>by
  have hf:=Oi C false note t f;rw [rU] at hx;rw [Dw];exact hf hx.2
theorem Oi (C:bN) (body note:Bool) (t:Int):∀ l:List ay,jg C body note t l→tN l
 | [],_=>by rw [tN];trivial
 | x :: l,h=>by
  rw [jg] at h;rw [tN];exact ⟨anX C body note t x h.1,Oi C body note t l h.2⟩
theorem aaN (C:bN) (note:Bool) (t:Int):∀ l:List aV,lH C note t l→Ca l
 | [],_=>by rw [Ca];trivial
 | x :: l,h=>by
  rw [lH] at h;rw [Ca];exact ⟨anY C note t x h.1,aaN C note t l h.2⟩
theorem aaM (C:bN) (note:Bool) (t:Int):∀ l:List bB,mK C note t l→Dx l
 | [],_=>by rw [Dx];trivial
 | x :: l,h=>by
  rw [mK] at h;rw [Dx];exact ⟨anW C note t x h.1,aaM C note t l h.2⟩
end
theorem anP {d:gI} (hz:xk d):xk (nD d):=⟨Nat.le_trans (Vx _) hz.fl,hz.hd,Nat.le_trans (List.length_filter_le _ _) hz.rn,fun x hx=>hz.rt x (List.mem_filter.1 hx).1,hz.sn,hz.st⟩
theorem aaC {d:gI} (hz:xk d) (h:jc d=0):tN d.flow∧bZ (lX d.flow)≤1073741824∧(∀ k∈qW (xQ d),-9223372036854775808≤k∧k < 9223372036854775808)∧(qW (xQ d)).length≤4294967296:=by
 have h0:=(anO h).1;refine ⟨Oi _ _ _ _ _ ((MG d).1 h).2.2.1,Nat.le_trans (Vx _) hz.fl,fun q hq=>by have:=arS h0 hq;omega,?_⟩;exact Nat.le_trans (arR h0) hz.rn
end
section
open Go.RowKit
theorem RH {k c i:Int} {tx:ByteArray} {h h':dW} {f f':List ay} {r r':List aV} (hx:jS (.mk k c i tx h f r)=0) (hf:k≠6→f'=f) (hr:k≠7→r'=r):jS (.mk k c i tx h' f' r')=0:=by
 have e:sV (.mk k c i tx h' f' r')=sV (.mk k c i tx h f r):=by
  rw [mF]
  simp only [sV,Bool.or_eq_true,mD,lS]
  have c1:vo (.mk k c i tx h' f' r')=vo (.mk k c i tx h f r):=rfl;have c2:vV (.mk k c i tx h' f' r')=vV (.mk k c i tx h f r):=rfl;have c3:yw (.mk k c i tx h' f' r')=yw (.mk k c i tx h f r):=rfl;rw [c1,c2,c3]
  show (((((_∧c≠0)∨(_∧i≠0))∨(_∧(!pQ tx)=true))∨(k≠6∧0 < (f'.length:Int)))∨(k≠7∧0 < (r'.length:Int)))↔(((((_∧c≠0)∨(_∧i≠0))∨(_∧(!pQ tx)=true))∨(k≠6∧0 < (f.length:Int)))∨(k≠7∧0 < (r.length:Int)))
  by_cases h6:k=6
  ·subst h6;rw [hr (by decide)];simp
  rw [hf h6]
  by_cases h7:k=7
  ·subst h7;simp
  rw [hr h7]
 have e2:codeOk (.mk k c i tx h' f' r')=codeOk (.mk k c i tx h f r):=rfl;have e3:xY (.mk k c i tx h' f' r')=xY (.mk k c i tx h f r):=rfl
 unfold jS at hx ⊢
 rw [e,e2,e3];exact hx
theorem Ig (k c i:Int) (tx:ByteArray) (h:dW) (f:List ay) (r:List aV):pq (.mk k c i tx h f r)=(if k=6∨k=7 then [i] else [])++(if k=6 then iO f else if k=7 then lW r else []):=by
 rw [pq]
 by_cases h6:k=6
 ·rw [av h6,av h6,ah (show ¬ k=7 by omega),gu]
 rw [ah h6,ah h6,oD]
theorem aad:∀ a b:List aV,lW (a++b)=lW a++lW b
 | [],b=>by simp [lW]
 | x :: a,b=>by simp [lW,aad a b]
theorem aac:∀ a b:List bB,mW (a++b)=mW a++mW b
 | [],b=>by simp [mW]
 | x :: a,b=>by simp [mW,aac a b]
theorem acv:∀ a b:List aV,ng (a++b)=ng a+ng b
 | [],b=>by simp [ng]
 | x :: a,b=>by simp [ng,acv a b];omega
theorem acu:∀ a b:List bB,nS (a++b)=nS a+nS b
 | [],b=>by simp [nS]
 | x :: a,b=>by simp [nS,acu a b];omega
theorem abq {C:bN} {h:dW} {n:Nat}:Ch C h n=0↔gQ C 9 h=0∧n≠0∧n≤32:=by
 constructor
 ·intro h;have z:=lG h;have z2:=z (dx (decide ((n:Int)=0)) 11) (by simp);have z3:=z (dx (decide (32 < (n:Int))) 9) (by simp);rw [wZ (by decide),mM] at z2 z3;exact ⟨z _ fK,by omega,by omega⟩
 rintro ⟨h1,h2,h3⟩;refine M4 fun x hx=>?_
 simp only [kg,List.not_mem_nil,or_false] at hx
 rcases hx with rfl|rfl|rfl
 ·exact h1
 ·rw [wZ (by decide),mM];omega
 rw [wZ (by decide),mM];omega
variable {acc rej:Int→Bool}
mutual
theorem apw (C:bN) (body note:Bool) (t:Int):∀ x:ay,mX C body note t x→jg C body note t (qV acc rej x)∧(iO (qV acc rej x)).Sublist (pq x)∧jw (qV acc rej x)≤uI x
 | .mk k c i tx h f r,hx=>by
  have hf:=OB C false true t f;have hr:=abp C note (t+1) r;rw [mX] at hx;obtain ⟨h1,h2,h3,h4,h5⟩:=hx;have hd:=MN acc rej h3;have nil:jg C body note t []∧(iO []).Sublist (pq (.mk k c i tx h f r))∧jw []≤uI (.mk k c i tx h f r):=⟨by rw [jg];trivial,by rw [iO];exact List.nil_sublist _,by rw [jw];exact gN _⟩;have one:∀ y:ay,mX C body note t y→(pq y).Sublist (pq (.mk k c i tx h f r))→uI y≤uI (.mk k c i tx h f r)→jg C body note t [y]∧(iO [y]).Sublist (pq (.mk k c i tx h f r))∧jw [y]≤uI (.mk k c i tx h f r):=fun y a b c=>⟨by rw [jg,jg];exact ⟨a,bq⟩,by rw [iO,iO,gu];exact b,by rw [jw,jw];exact c⟩;rw [qV]
  split
  ·exact nil
  split
  ·rename_i h6
   obtain ⟨a1,a2,a3⟩:=hf (h4 h6);refine one _ ?_ ?_ ?_
   ·rw [mX];exact ⟨RH h1 (fun h=>absurd h6 h) fun _=>rfl,h2,hd,fun _=>a1,fun h=>absurd h (by omega)⟩
   ·rw [Ig,Ig];rw [av h6,av h6];exact (jR _).append a2
   rw [uI,uI,av h6,av h6];omega
  split
  ·rename_i h6 h7
   split
   ·exact nil
   rename_i hn
   obtain ⟨h5,h8⟩:=h5 h7;obtain ⟨a1,a2,a3⟩:=hr h8;have hl:=OE (acc:=acc) (rej:=rej) r;refine one _ ?_ ?_ ?_
   ·rw [mX];exact ⟨RH h1 (fun _=>rfl) fun h=>absurd h7 h,h2,hd,fun h=>absurd h h6,fun _=>⟨⟨hn,by omega⟩,a1⟩⟩
   ·rw [Ig,Ig];rw [ah h6,ah h6,av h7,av h7];exact (jR _).append a2
   rw [uI,uI,ah h6,ah h6,av h7,av h7];omega
  rename_i h6 h7
  refine one _ ?_ ?_ ?_
  ·rw [mX];exact ⟨RH h1 (fun _=>rfl) fun _=>rfl,h2,hd,fun h=>absurd h h6,fun h=>absurd h h7⟩
  ·rw [Ig,Ig];exact jR _
  rw [uI,uI];exact bP _
theorem apx (C:bN) (note:Bool) (t:Int):∀ x:aV,rV C note t x→lH C note t (rZ acc rej x)∧(lW (rZ acc rej x)).Sublist (tJ x)∧ng (rZ acc rej x)≤uR x
 | .mk h cs,hx=>by
  have hc:=abo C note t cs;rw [rV] at hx;obtain ⟨h1,h2⟩:=hx;obtain ⟨a1,a2,a3⟩:=hc h2;have hl:=OD (acc:=acc) (rej:=rej) cs;have nil:lH C note t []∧(lW []).Sublist (tJ (.mk h cs))∧ng []≤uR (.mk h cs):=⟨by rw [lH];trivial,by rw [lW];exact List.nil_sublist _,by rw [ng];exact gN _⟩;rw [rZ]
  split
  ·exact nil
  split
  ·exact nil
  rename_i hn
  rw [lH,lH,lW,lW,ng,ng,rV,tJ,tJ,uR,uR,gu];refine ⟨⟨⟨?_,a1⟩,bq⟩,a2,a3⟩;obtain ⟨z1,z2,z3⟩:=abq.1 h1;exact abq.2 ⟨MN acc rej z1,hn,by omega⟩
theorem apv (C:bN) (note:Bool) (t:Int):∀ x:bB,rU C note t x→mK C note t (uP acc rej x)∧(mW (uP acc rej x)).Sublist (uJ x)∧nS (uP acc rej x)≤uC x
 | .mk i h f,hx=>by
  have hf:=OB C false note t f;rw [rU] at hx;obtain ⟨h1,h2⟩:=hx;obtain ⟨a1,a2,a3⟩:=hf h2;rw [uP]
  split
  ·exact ⟨by rw [mK];trivial,by rw [mW];exact List.nil_sublist _,by rw [nS];exact gN _⟩
  rw [mK,mK,mW,mW,nS,nS,rU,uJ,uJ,uC,uC,gu];exact ⟨⟨⟨MN acc rej h1,a1⟩,bq⟩,(jR [i]).append a2,a3⟩
theorem OB (C:bN) (body note:Bool) (t:Int):∀ l:List ay,jg C body note t l→jg C body note t (fC acc rej l)∧(iO (fC acc rej l)).Sublist (iO l)∧jw (fC acc rej l)≤jw l
 | [],_=>by rw [fC];exact ⟨by rw [jg];trivial,jR _,bP _⟩
 | x :: l,h=>by
  rw [jg] at h;obtain ⟨a1,a2,a3⟩:=apw C body note t x h.1;obtain ⟨b1,b2,b3⟩:=OB C body note t l h.2;rw [fC,Kw,KX,iO,jw];exact ⟨Cc.2 fun y hy=>(nV.1 hy).elim (Cc.1 a1 y) (Cc.1 b1 y),a2.append b2,by omega⟩
theorem abp (C:bN) (note:Bool) (t:Int):∀ l:List aV,lH C note t l→lH C note t (jC acc rej l)∧(lW (jC acc rej l)).Sublist (lW l)∧ng (jC acc rej l)≤ng l
 | [],_=>by rw [jC];exact ⟨by rw [lH];trivial,jR _,bP _⟩
 | x :: l,h=>by
  rw [lH] at h;obtain ⟨a1,a2,a3⟩:=apx C note t x h.1;obtain ⟨b1,b2,b3⟩:=abp C note t l h.2;rw [jC,aad,acv,lW,ng];exact ⟨Oq.2 fun y hy=>(nV.1 hy).elim (Oq.1 a1 y) (Oq.1 b1 y),a2.append b2,by omega⟩
theorem abo (C:bN) (note:Bool) (t:Int):∀ l:List bB,mK C note t l→mK C note t (gY acc rej l)∧(mW (gY acc rej l)).Sublist (mW l)∧nS (gY acc rej l)≤nS l
 | [],_=>by rw [gY];exact ⟨by rw [mK];trivial,jR _,bP _⟩
 | x :: l,h=>by
  rw [mK] at h;obtain ⟨a1,a2,a3⟩:=apv C note t x h.1;obtain ⟨b1,b2,b3⟩:=abo C note t l h.2;rw [gY,aac,acu,mW,nS];exact ⟨Om.2 fun y hy=>(nV.1 hy).elim (Om.1 a1 y) (Om.1 b1 y),a2.append b2,by omega⟩
end
def mY (acc rej:Int→Bool) (d:gI):gI:=⟨fC acc rej d.flow,aW acc rej d.fin,d.revs,d.gZ⟩
theorem abu {d:gI} (h:jc d=0):jc (mY acc rej d)=0:=by
 rw [MG] at h ⊢;obtain ⟨h1,⟨h2,h3⟩,h4,h5,h6⟩:=h;obtain ⟨a1,a2,a3⟩:=OB (acc:=acc) (rej:=rej) _ true false 0 d.flow h4
 unfold qU at h3
 rw [mM] at h3;have hd:d.fin.marks.bL=[]:=List.eq_nil_of_length_eq_zero (by omega)
 have hg:¬ kX acc rej d.fin:=fun h=>h.elim (fun h=>h3 (.inl (.inl h.1))) fun ⟨x,hx,_⟩=>by rw [hd] at hx;cases hx
 have ha:aW acc rej d.fin=lF acc rej d.fin:=ah hg;refine ⟨h1,⟨?_,?_⟩,a1,h5.sub a2,by show jw (fC acc rej d.flow)≤_;omega⟩
 ·show gQ d.nX 3 (aW acc rej d.fin)=0
  rw [ha];exact MN acc rej h2
 show qU (aW acc rej d.fin).marks=false
 rw [ha]
 unfold qU lF
 rw [mM];dsimp only;rw [hd];rintro ((h|h)|h)
 ·split at h
  ·exact h rfl
  exact h3 (.inl (.inl h))
 ·split at h
  ·exact h rfl
  exact h3 (.inl (.inr h))
 simp at h
structure wm (n:Nat) (d:gI):Prop where
 z:xk d
 fl:bZ d.flow≤n
 hd:kU d.fin≤n
theorem aaD {n:Nat} {d:gI} (h:wm n d):wm n (nD d):=⟨anP h.z,Nat.le_trans (Vx _) h.fl,h.hd⟩
theorem KL {n:Nat} {d:gI} (h:wm n d) (hn:2*n≤1073741824) (hn0:16≤n):wm (2*n) (mY acc rej d):=by
 have h1:=OG (acc:=acc) (rej:=rej) d.flow
 have h2:kU (aW acc rej d.fin)≤2*n:=by
  unfold aW
  split
  ·show kU zM≤_
   simp [DW,zM,eG];try omega
  have:=MO (acc:=acc) (rej:=rej) d.fin;have:=h.hd;omega
 have h3:=h.fl;refine ⟨⟨by show bZ (fC acc rej d.flow)≤_;omega,Nat.le_trans h2 (by omega),h.z.rn,h.z.rt,h.z.sn,h.z.st⟩,by show bZ (fC acc rej d.flow)≤_;omega,h2⟩
end
section
open Go.RowKit
theorem Q7:∀ args w,(callFunc 96 args).run prog w=.ok (.enter 96 args) w:=enters func96 rfl (by kernel_rfl)
instance Ru:dR prog 43 0 0:=⟨by kernel_rfl⟩
theorem QZ:∀ args w,(callFunc 76 args).run prog w=.ok (.enter 76 args) w:=enters func76 rfl (by kernel_rfl)
instance Yk:dR prog 43 1 1:=⟨by kernel_rfl⟩
theorem aix:∀ args w,(callFunc 97 args).run prog w=.ok (.enter 97 args) w:=enters func97 rfl (by kernel_rfl)
theorem ahY:∀ args w,(callFunc 46 args).run prog w=.ok (.enter 46 args) w:=enters func46 rfl (by kernel_rfl)
theorem aiy:∀ args w,(callFunc 99 args).run prog w=.ok (.enter 99 args) w:=enters func99 rfl (by kernel_rfl)
theorem ahZ:∀ args w,(callFunc 48 args).run prog w=.ok (.enter 48 args) w:=enters func48 rfl (by kernel_rfl)
theorem agc:∀ args w,(callFunc 118 args).run prog w=.ok (.enter 118 args) w:=enters func118 rfl (by kernel_rfl)
theorem ni.Oe {acc rej:Int→Bool} {h:dW} {G:GH} {p d l:aj} (hh:fD G (aW acc rej h) p d l):ni acc rej h (.tuple #[.agg #[p,vi (aW acc rej h).marks.ins,vi (aW acc rej h).marks.move,d,l],.bool (!decide (kX acc rej h))]) G:=by
 unfold ni
 by_cases hg:kX acc rej h
 ·have e:aW acc rej h=zM:=av hg;rw [av hg,iQ hg];rw [e] at hh ⊢;exact ⟨p,d,l,rfl,hh⟩
 have e:aW acc rej h=lF acc rej h:=ah hg;rw [ah hg,iY hg];rw [e] at hh ⊢;exact ⟨p,d,l,rfl,hh⟩
theorem arZ (G:GH):Bl (.func (.func 97) #[] #[]) G (fun _=>false) fun _=>true:=by
 intro G1 w0 hm hG r;refine iM (caps:=[]) aix ?_;refine eN [(0,_)] func97 rfl ntmps97 rfl rfl hG ?_;refine ak 8 ?_;intro a H;refine cu ?_;refine (eU H results97 (.cons (aZ H rfl) (.cons (aZ H rfl) .nil)) ?_).1;exact H.rt rfl
theorem apJ (G:GH):Bj (.func (.func 46) #[] #[]) G (fun _=>false) fun _=>true:=by
 intro G1 w0 hm hG h p d l hh hz;refine iM (caps:=[]) ahY ?_;obtain ⟨pA,pn,pc,rfl⟩:=hh.props.form;obtain ⟨dA,dn,dc,rfl⟩:=hh.bL.form;obtain ⟨lA,ln,lc,rfl⟩:=hh.layers.form;refine eN [(0,_)] func46 rfl ntmps46 rfl rfl hG ?_;refine ak 1 ?_;intro a H;refine dP (cs:=[_,_,_,_,_]) H wn rfl rfl rfl ?_;clear H;intro b1 a w hb1 H;refine dz dw H wn rfl ?_;clear H;intro b2 a w hb2 H;refine aD 3 H ?_;clear H;intro a H;refine aR dw (cs:=[_,_,_,_,_]) H wn rfl rfl (H.hp.bO 1 rfl rfl) rfl ?_;clear H;intro a H;refine s_call Q7 H wn rfl (Ui _ _ H.ro _ _ _ (arZ _) rfl h _ _ _ hh hz) rfl ?_;clear H;rintro v5 G5 a w hd5 Dc H;obtain ⟨q1,q2,q3,q4,q5,q6,q7,q8,q9,rfl,qQ⟩:=hd5.ans;(iterate 2 refine jY H wn rfl rfl rfl ?_;clear H;intro a H);refine aX dw 0 (vs:=[_,_,_,_,_]) _ H wn rfl rfl rfl rfl rfl rfl rfl rfl ?_;clear H;intro w H;dsimp only [List.set,setRow] at H;refine aD 2 H ?_;clear H;intro a H;refine cu ?_;refine (eU H results46 (.cons (kT dw (cs:=[_,_,_,_,_]) H rfl rfl (H.hp.bO 0 rfl rfl)) (.cons (aZ H rfl) .nil)) ?_).1;exact H.rt (ni.Oe qQ)
theorem arY (G:GH):Bl (.func (.func 99) #[] #[]) G (fun _=>true) fun _=>false:=by
 intro G1 w0 hm hG r;refine iM (caps:=[]) aiy ?_;refine eN [(0,_)] func99 rfl ntmps99 rfl rfl hG ?_;refine ak 8 ?_;intro a H;refine cu ?_;refine (eU H results99 (.cons (aZ H rfl) (.cons (aZ H rfl) .nil)) ?_).1;exact H.rt rfl
theorem apI (G:GH):Bj (.func (.func 48) #[] #[]) G (fun _=>true) fun _=>false:=by
 intro G1 w0 hm hG h p d l hh hz;refine iM (caps:=[]) ahZ ?_;obtain ⟨pA,pn,pc,rfl⟩:=hh.props.form;obtain ⟨dA,dn,dc,rfl⟩:=hh.bL.form;obtain ⟨lA,ln,lc,rfl⟩:=hh.layers.form;refine eN [(0,_)] func48 rfl ntmps48 rfl rfl hG ?_;refine ak 1 ?_;intro a H;refine dP (cs:=[_,_,_,_,_]) H wn rfl rfl rfl ?_;clear H;intro b1 a w hb1 H;refine dz dw H wn rfl ?_;clear H;intro b2 a w hb2 H;refine aD 3 H ?_;clear H;intro a H;refine aR dw (cs:=[_,_,_,_,_]) H wn rfl rfl (H.hp.bO 1 rfl rfl) rfl ?_;clear H;intro a H;refine s_call Q7 H wn rfl (Ui _ _ H.ro _ _ _ (arY _) rfl h _ _ _ hh hz) rfl ?_;clear H;rintro v5 G5 a w hd5 Dc H;obtain ⟨q1,q2,q3,q4,q5,q6,q7,q8,q9,rfl,qQ⟩:=hd5.ans;(iterate 2 refine jY H wn rfl rfl rfl ?_;clear H;intro a H);refine aX dw 0 (vs:=[_,_,_,_,_]) _ H wn rfl rfl rfl rfl rfl rfl rfl rfl ?_;clear H;intro w H;dsimp only [List.set,setRow] at H;refine aD 2 H ?_;clear H;intro a H;refine cu ?_;refine (eU H results48 (.cons (kT dw (cs:=[_,_,_,_,_]) H rfl rfl (H.hp.bO 0 rfl rfl)) (.cons (aZ H rfl) .nil)) ?_).1;exact H.rt (ni.Oe qQ)
abbrev lsB (l:List Int):Int→Bool:=fun k=>nM l k
theorem arX {G:GH} {b:Nat} {A R:List Int} {va vr:aj} (ha:aI G b 0=some va) (hr:aI G b 1=some vr) (hva:au G (.sl 1 (A.map fun k=>[li k])) va) (mI:au G (.sl 1 (R.map fun k=>[li k])) vr) (hla:A.length≤4294967296) (hlr:R.length≤4294967296) :
  Bl (.func (.func 118) #[] #[(aG b 0)]) G (lsB A) (lsB R):=by
 intro G1 w0 hm hG r;refine iM (caps:=[(aG b 0)]) agc ?_;replace ha:=aH hm ha;replace hr:=aH hm hr;replace hva:=hva.mono hm;replace mI:=mI.mono hm;refine eN [(0,_),(1,_)] func118 rfl ntmps118 rfl rfl hG ?_;refine ak 5 ?_;intro a H;refine dI hmx [[],[0],[],[0,1,2],[],[4],[],(ra 0 7),(ra 0 8),(ra 0 9)] [8,9] (by kernel_rfl) [_,_,_,.bool (lsB A r),_,_,_,.bool (lsB R r)] H (aF (Z0 rfl (Rf Ru rfl)) (X1 0 5 rfl fun hG=>Rg AX rfl (aH hG ha)) (Z0 rfl (Rm rfl)) ?_ (aF (Z0 rfl (Rf Yk rfl)) (X1 4 9 rfl fun hG=>Rg AX rfl (aH hG hr)) (Z0 rfl (Rm rfl)) ?_ (bH (bQ rfl) (bH (bQ rfl) cO)))) ?_
 ·refine dD 1 6 2 7 rfl rfl fun _ a w G1 hG HT H fin=>?_;refine s_call QZ H wn rfl (Uj _ _ H.ro A r _ (hva.mono hG) hla) rfl ?_;clear H;rintro v8 G8 a w rfl nL H;exact fin H nL (rfl)
 ·refine dD 5 10 6 11 rfl rfl fun _ a w G1 hG HT H fin=>?_;refine s_call QZ H wn rfl (Uj _ _ H.ro R r _ (mI.mono hG) hlr) rfl ?_;clear H;rintro v12 Bf a w rfl mV H;exact fin H mV (rfl)
 clear H;intro a w G iN H hv;have H:=H.aN (hv 3 8 rfl rfl) rfl;have H:=H.aN (hv 7 12 rfl rfl) rfl;clear hv;refine kH H (Ra rfl (Ra rfl ?_));clear H;intro a H;refine aC ⟨rfl,?_⟩;refine dQ ?_;refine cu ?_;refine (eU H results118 (.cons (aZ H rfl) (.cons (aZ H rfl) .nil)) ?_).1;exact H.rt rfl
theorem KC (G:GH) (w0:World) (hG:Hold G w0) (A R:List Int) (aA rA:Option Addr) (an ac rn rc:Nat) (hva:au G (.sl 1 (A.map fun k=>[li k])) (.slice aA an ac)) (mI:au G (.sl 1 (R.map fun k=>[li k])) (.slice rA rn rc)) (hla:A.length≤4294967296) (hlr:R.length≤4294967296) (h:dW) (p d l:aj) (hh:fD G h p d l) (hz:kU h≤1073741824) :
  Calls prog 65 #[oW h p d l,.agg #[.slice aA an ac,.slice rA rn rc]] w0 (bC w0 G (ni (lsB A) (lsB R) h)):=by
 obtain ⟨pA,pn,pc,rfl⟩:=hh.props.form;obtain ⟨dA,dn,dc,rfl⟩:=hh.bL.form;obtain ⟨lA,ln,lc,rfl⟩:=hh.layers.form;refine eN [(0,_),(1,_)] func65 rfl ntmps65 rfl rfl hG ?_;refine ak 1 ?_;intro a H;refine dP (cs:=[_,_,_,_,_]) H wn rfl rfl rfl ?_;clear H;intro b2 a w hb2 H;refine dP (cs:=[_,_]) H wn rfl rfl rfl ?_;clear H;intro b3 a w hb3 H;refine dz dw H wn rfl ?_;clear H;intro b4 a w hb4 H;refine aD 2 H ?_;clear H;intro a H;have H:=H.dY (Pl:=[_,_,_]) (dJ:=[_,_,_]) [1,0,2] (by decide) rfl;obtain ⟨Ga,hma,hb',H⟩:=H.eu;have hga:=fun j v hj=>kW hb' 0 [.slice aA an ac,.slice rA rn rc] rfl j v hj;refine yP ?_;refine aR dw (cs:=[_,_,_,_,_]) H wn rfl rfl (H.hp.bO 1 rfl rfl) rfl ?_;clear H;intro a H;refine nQ H wn rfl rfl ?_;clear H;intro a H;refine s_call Q7 H wn rfl (Ui _ _ H.ro _ _ _ (arX (hga 0 _ rfl) (hga 1 _ rfl) (hva.mono hma) (mI.mono hma) hla hlr) rfl h _ _ _ (hh.mono hma) hz) rfl ?_;clear H;rintro v8 G8 a w hd8 kL H;obtain ⟨q1,q2,q3,q4,q5,q6,q7,q8,q9,rfl,Ht⟩:=hd8.ans;(iterate 2 refine jY H wn rfl rfl rfl ?_;clear H;intro a H);refine aX dw 0 (vs:=[_,_,_,_,_]) _ H wn rfl rfl rfl rfl rfl rfl rfl rfl ?_;clear H;intro w H;dsimp only [List.set,setRow] at H;refine aD 2 H ?_;clear H;intro a H;refine cu ?_;refine (eU H results65 (.cons (kT dw (cs:=[_,_,_,_,_]) H rfl rfl (H.hp.bO 0 rfl rfl)) (.cons (aZ H rfl) .nil)) ?_).1;exact H.rt (ni.Oe Ht)
end
section
open Go.RowKit
theorem agq:∀ args w,(callFunc 135 args).run prog w=.ok (.enter 135 args) w:=enters func135 rfl (by kernel_rfl)
theorem Pj:prog.underlying 134=some (.slice 41):=by kernel_rfl
instance:jZ prog 134 (.slice 41):=⟨Pj⟩
theorem ais:∀ args w,(callFunc 74 args).run prog w=.ok (.enter 74 args) w:=enters func74 rfl (by kernel_rfl)
theorem ait:∀ args w,(callFunc 75 args).run prog w=.ok (.enter 75 args) w:=enters func75 rfl (by kernel_rfl)
theorem amT (G:GH) (w0:World) (hG:Hold G w0) (l:List Int) (p:Int→Bool) (v fv:aj) (hv:au G (.sl 1 (l.map fun k=>[li k])) v) (hf:yD fv G p) (hl:l.length≤4294967296) :
  Calls prog 135 #[v,fv] w0 (bC w0 G fun u G'=>u=vi (mJ (l.findIdx? p))):=by
 obtain ⟨A,c,rfl,hc1,hc2,-⟩:=hv.slice;rw [bM] at *;refine eN [(0,_),(1,_)] func135 rfl ntmps135 rfl rfl hG ?_;refine ak 10 ?_;intro a H;refine eH (ι:=Nat × GH) (Tc:=[(0,_),(1,_),(7,_)]) (Lc:=[]) (fun gh=>[(8,vi gh.1)]) (fun gh=>[]) (fun gh=>gh.2) (fun gh=>gh.1≤l.length∧(l.take gh.1).findIdx? p=none∧(∀ b o,G b=some o→gh.2 b=some o)) (fun gh=>l.length - gh.1) ((0,G)) sB ?_ ?_
 ·exact ⟨by omega,rfl,fun _ _ h=>h⟩
 clear H;rintro ⟨k,g⟩ a w hI H;dsimp only at hI H;obtain ⟨hk,hno,hgm⟩:=hI;dsimp only [lca,bG] at H;refine dO 4 H ?_ ?_ <;> clear H
 ·intro p9
  have hk2:k < l.length:=by omega
  obtain ⟨b,o,rfl,hrow⟩:=Kv (f:=fun q=>q) hv hk2
  replace hrow:aI g b (o+k*1)=some (vi l[k]):=by rw [Nat.mul_one];exact aH hgm hrow
  refine ak 13 ?_;intro a H;refine ji H wn rfl rfl (hf _ _ hgm H.ro l[k]) rfl ?_;clear H;rintro v16 nk a w rfl gU H;refine iR 1 H ?_ ?_ <;> clear H
  ·intro h16
   try have p16:=dT h16
   refine aP 4 ?_
   first
    | exact (by rw [rR hk2 hno h16];rfl)
    | exact (by rw [show l.take k=l from fJ (by omega)] at hno;rw [hno];rfl)
  intro h16
  try have p16:=dF h16
  refine ak 4 ?_;intro a H;refine aC ?_;refine cB ((k+1,nk)) sB ?_ ?_
  ·(try dsimp only);exact ⟨by omega,BU hk2 hno h16,fun b o h=>gU b o (hgm b o h)⟩
  first|omega|(dsimp only;omega)
 intro p9
 refine aP 4 ?_
 first
  | exact (by rw [rR hk2 hno h16];rfl)
  | exact (by rw [show l.take k=l from fJ (by omega)] at hno;rw [hno];rfl)
theorem afp (G:GH) (w0:World) (hG:Hold G w0) (l:List Int) (p:Int→Bool) (v fv:aj) (hv:au G (.sl 1 (l.map fun k=>[li k])) v) (hf:yD fv G p) (hl:l.length≤4294967296) :
  Calls prog 74 #[v,fv] w0 (bC w0 G fun u G'=>u=.bool (l.findIdx? p).isSome):=by
 refine eN [(0,_),(1,_)] func74 rfl ntmps74 rfl rfl hG ?_;refine ak 6 ?_;intro a H;refine s_call agq H wn rfl (amT _ _ H.ro l p _ _ hv hf hl) rfl ?_;clear H;rintro v7 G7 a w rfl wL H;refine fu 3 H ?_;cases h:l.findIdx? p <;> simp [mJ]
theorem aei {G:GH} {b:Nat} {R:List Int} {vr:aj} (hr:aI G b 1=some vr) (mI:au G (.sl 1 (R.map fun k=>[li k])) vr) (hlr:R.length≤4294967296) :
  yD (.func (.func 75) #[] #[(aG b 0)]) G (lsB R):=by
 intro G1 w0 hm hG r;refine iM (caps:=[(aG b 0)]) ait ?_;replace hr:=aH hm hr;replace mI:=mI.mono hm;refine eN [(0,_),(1,_)] func75 rfl ntmps75 rfl rfl hG ?_;refine ak 7 ?_;intro a H;refine s_call QZ H wn rfl (Uj _ _ H.ro R r _ mI hlr) rfl ?_;clear H;rintro v7 G7 a w rfl wL H;refine fu 2 H ?_;exact rfl
def pO (l:List Int) (i:Nat):Int:=match l[i]? with
 | some n=>if n < 1∨1073741824 < n then 22 else if 0 < i∧n=l.getD (i - 1) 0 then 7 else if 0 < i∧n < l.getD (i - 1) 0 then 6 else 0
 | none=>0
def sP (A R:List Int):Int:=dh [iF (pO A) A.length,iF (pO R) R.length,dx (A.findIdx? (lsB R)).isSome 23]
theorem yM {l:List Int} {k:Nat} (h:k < l.length):pO l k=if l[k] < 1∨1073741824 < l[k] then 22 else if 0 < k∧l[k]=l.getD (k - 1) 0 then 7 else if 0 < k∧l[k] < l.getD (k - 1) 0 then 6 else 0:=by
 unfold pO;rw [eO h]
theorem Ej {A R l:List Int} {o k:Nat} {e:Int} (hx:(o=0∧l=A)∨(o=1∧l=R)) (hA:0 < o→iF (pO A) A.length=0) (hk:k < l.length) (he:dh (((List.range l.length).map (pO l)).drop k)=iF (pO l) l.length) (h:pO l k=e) (hn:e≠0):vi e=vi (sP A R):=by
 rw [Bn hk,av (by rw [h];exact hn),h] at he
 rcases hx with ⟨-,rfl⟩|⟨rfl,rfl⟩
 ·unfold sP;rw [← he,dh,av hn]
 unfold sP;rw [hA (by decide),← he,dh,ah (by decide),dh,av hn]
theorem MB {l:List Int} {k:Nat} (hk:k < l.length) (he:dh (((List.range l.length).map (pO l)).drop k)=iF (pO l) l.length) (h:pO l k=0):dh (((List.range l.length).map (pO l)).drop (k+1))=iF (pO l) l.length:=by
 rw [← he,Bn hk,ah (by rw [h];decide)]
theorem WV {l:List Int} {k:Nat} (hk:l.length≤k) (he:dh (((List.range l.length).map (pO l)).drop k)=iF (pO l) l.length):iF (pO l) l.length=0:=by
 rw [← he,ku (by simpa using hk)];rfl
theorem WX (G:GH) (w0:World) (hG:Hold G w0) (A R:List Int) (va vr:aj) (hva:au G (.sl 1 (A.map fun k=>[li k])) va) (mI:au G (.sl 1 (R.map fun k=>[li k])) vr) (hla:A.length≤4294967296) (hlr:R.length≤4294967296) :
  Calls prog 23 #[.agg #[va,vr]] w0 (bC w0 G fun u G'=>u=vi (sP A R)):=by
 obtain ⟨aA,ac,rfl,ha1,ha2,-⟩:=hva.slice;obtain ⟨rA,rc,rfl,hr1,hr2,-⟩:=mI.slice
 simp only [bM] at *
 refine eN [(0,_)] func23 rfl ntmps23 rfl rfl hG ?_;intro a H;refine Ab (fun _ K1=>?_);refine Ja ?_;refine dP (cs:=[_,_]) H wn rfl rfl rfl ?_;clear H;intro b1 a w hb1 H;refine kH H (iD K1 rfl (SQ fun _ K2=>SQ fun _ K3=>?_));clear H K1;intro a H;obtain ⟨Ga,hma,hb',H⟩:=H.eu;have hga:=fun j v hj=>kW hb' 0 [.slice aA A.length ac,.slice rA R.length rc] rfl j v hj;replace hva:=hva.mono hma;replace mI:=mI.mono hma;refine kP H (SC (Rf Ru rfl (Rg AX rfl (aH (by first|assumption|exact fun _ _ h=>h) (hga 0 _ rfl)) ?_)));clear H;intro a H;refine kH H (Rf Yk rfl (Rg AX rfl (hga 1 _ rfl) ?_));clear H;intro a H;refine gG Pj AX [_,_] [_,_] H wn rfl rfl rfl rfl rfl (by intro i q h;match i,h with|0,h=>exact h|1,h=>exact h|n+2,h=>simp at h) rfl rfl ?_;clear H;intro b11 a w Ez H;obtain ⟨Gb,hmb,Ak,H⟩:=H.eu;have hgb:=fun j v hj=>kW Ak 0 [.slice aA A.length ac,.slice rA R.length rc] rfl j v hj;replace hva:=hva.mono hmb;replace mI:=mI.mono hmb;refine kH H (Rl Pj rfl (Rm rfl (Kn K3 (SB ?_))));clear H K3;intro a H;skip;refine eH (ι:=Nat) (Tc:=[(1,_),(11,_),(12,_)]) (Lc:=[]) (fun gh=>[(13,vi gh)]) (fun gh=>[]) (fun gh=>Gb) (fun gh=>gh≤2∧(0 < gh→iF (pO A) A.length=0)∧(1 < gh→iF (pO R) R.length=0)) (fun gh=>2 - gh) (0) (by exact (H).sub ⟨rfl,rfl,rfl,rfl,bq⟩) ?_ ?_
 ·exact ⟨by omega,fun h=>absurd h (by decide),fun h=>absurd h (by decide)⟩
 clear H;intro o a w hI H;obtain ⟨ho,uH,EO⟩:=hI;dsimp only [lca,bG] at H;refine kP H (SQ fun _ K4=>SC (Rc rfl (Kn K4 (SQ fun _ K5=>Cd rfl ?_ ?_)))) <;> clear H K4
 ·intro pV a H
  try have jX:=dT pV
  have ho2:o < 2:=by omega
  obtain ⟨l,lA,lc,hx,hgl,hvl,hll,hl2⟩:∃ (l:List Int) (lA:Option Addr) (lc:Nat),((o=0∧l=A)∨(o=1∧l=R))∧aI Gb b11 (0+o*1)=some (.slice lA l.length lc)∧au Gb (.sl 1 (l.map fun k=>[li k])) (.slice lA l.length lc)∧l.length≤lc∧l.length≤4294967296:=by
   match o,ho2 with
   | 0,_=>exact ⟨A,aA,ac,.inl ⟨rfl,rfl⟩,hgb 0 _ rfl,hva,by omega,hla⟩
   | 1,_=>exact ⟨R,rA,rc,.inr ⟨rfl,rfl⟩,hgb 1 _ rfl,mI,by omega,hlr⟩
  refine kP H (Kc K5 (SQ fun _ K6=>SB (SQ fun _ K7=>SC (Ri Pj AX rfl rfl (Rg AX rfl hgl (iD K7 rfl (SQ fun _ K8=>SC (Rm rfl (Rl uU rfl (Rm rfl (Kn K8 (SB ?_))))))))))));clear H K5 K7 K8;intro a H;skip;refine eH (ι:=Nat) (Tc:=[(1,_),(4,_),(11,_),(12,_),(13,_),(17,_),(18,_)]) (Lc:=[]) (fun gh=>[(19,vi gh)]) (fun gh=>[]) (fun gh=>Gb) (fun gh=>gh≤l.length∧dh (((List.range l.length).map (pO l)).drop gh)=iF (pO l) l.length) (fun gh=>l.length - gh) (0) (by exact (H).sub ⟨rfl,rfl,rfl,rfl,rfl,rfl,rfl,rfl,bq⟩) ?_ ?_
  ·exact ⟨by omega,rfl⟩
  clear H;intro k a w hI H;obtain ⟨hk,he⟩:=hI;dsimp only [lca,bG] at H;refine kP H (SQ fun _ K9=>SC (Rc rfl (Kn K9 (SQ fun _ yF=>Cd rfl ?_ ?_)))) <;> clear H K9
  ·intro h20 a H
   try have Fp:=dT h20
   have hk2:k < l.length:=by omega
   obtain ⟨bl,ol,rfl,hrow⟩:=Kv (f:=fun q=>q) hvl hk2
   replace hrow:aI Gb bl (ol+k*1)=some (vi l[k]):=by rw [Nat.mul_one];exact hrow
   have mH:aI Gb bl (ol+(k - 1)*1)=some (vi (l.getD (k - 1) 0)):=by
    obtain ⟨b',o',e,hr'⟩:=Kv (f:=fun q=>q) hvl (show k - 1 < l.length by omega)
    injection e with e
    injection e with e1 e2
    subst e1;subst e2;rw [Nat.mul_one,hr',List.getD_eq_getElem?_getD,eO];rfl
   refine kP H (Kc yF (SQ fun _ oN=>SB (SQ fun _ zR=>SC (Rm rfl (Ri uU bR rfl rfl (Rg bR rfl hrow (Ra rfl (iD zR rfl (SB (SQ fun _ D9=>SC (Rm rfl (Rc rfl (Rm rfl (Sp 27 rfl ?_ ?_)))))))))))))) <;> clear H yF zR
   ·intro h27 a H
    try have p27:=dT h27
    refine kH H (nU h27 rfl (Pt h27 rfl (iD D9 rfl (Ct rfl rfl (SQ fun _ IX=>SC (iD IX rfl ?_))))));clear H D9 IX;intro a H;refine lr H results23 rfl ?_
    first
     | exact H.rt (Ej hx uH hk2 he (by rw [yM hk2];(repeat' split) <;> first|rfl|(exfalso;simp_all;done)|(exfalso;simp_all;omega)) (by decide))
     | exact H.rt (by unfold sP;rw [uH (by omega),EO (by omega),dh,ah (by decide),dh,ah (by decide),jU];rfl)
   intro h27 a H
   try have p27:=dF h27
   refine kH H (YM h27 rfl (YC h27 rfl (Pf h27 rfl (iD D9 rfl (Cd rfl ?_ ?_))))) <;> clear H D9
   ·intro fB a H
    try have jq:=dT fB
    refine kP H (SQ fun _ V3=>SC (iD V3 rfl ?_));clear H V3;intro a H;refine lr H results23 rfl ?_
    first
     | exact H.rt (Ej hx uH hk2 he (by rw [yM hk2];(repeat' split) <;> first|rfl|(exfalso;simp_all;done)|(exfalso;simp_all;omega)) (by decide))
     | exact H.rt (by unfold sP;rw [uH (by omega),EO (by omega),dh,ah (by decide),dh,ah (by decide),jU];rfl)
   intro fB a H
   try have jq:=dF fB
   refine kP H (SQ fun _ LY=>SC (Rm rfl (Rc rfl (Rm rfl (Sp 34 rfl ?_ ?_))))) <;> clear H
   ·intro kY a H
    try have p34:=dT kY
    refine kH H (YM kY rfl (YM kY rfl (YM kY rfl ?_)));clear H;intro a H;refine lK _ H (wg H rfl rfl kY) rfl rfl rfl (by omega) (by omega) rfl ?_;clear H;intro a H;rw [show ((k:Int) - 1)=((k - 1:Nat):Int) by omega] at H;refine kH H (YI uU bR kY rfl rfl (YR bR kY rfl mH (YC kY rfl (Pt kY rfl (iD LY rfl (Cd rfl ?_ ?_)))))) <;> clear H LY
    ·intro h31 a H
     try have p31:=dT h31
     refine kP H (SQ fun _ V4=>SC (iD V4 rfl ?_));clear H V4;intro a H;refine lr H results23 rfl ?_
     first
      | exact H.rt (Ej hx uH hk2 he (by rw [yM hk2];(repeat' split) <;> first|rfl|(exfalso;simp_all;done)|(exfalso;simp_all;omega)) (by decide))
      | exact H.rt (by unfold sP;rw [uH (by omega),EO (by omega),dh,ah (by decide),dh,ah (by decide),jU];rfl)
    intro h31 a H
    try have p31:=dF h31
    refine kP H (SQ fun _ LZ=>SC (Rm rfl (Rc rfl (Rm rfl (Sp 46 rfl ?_ ?_))))) <;> clear H
    ·intro h46 a H
     try have p46:=dT h46
     refine kH H (YM h46 rfl (YM h46 rfl (YM h46 rfl ?_)));clear H;intro a H;refine lK _ H (wg H rfl rfl h46) rfl rfl rfl (by omega) (by omega) rfl ?_;clear H;intro a H;rw [show ((k:Int) - 1)=((k - 1:Nat):Int) by omega] at H;refine kH H (YI uU bR h46 rfl rfl (YR bR h46 rfl mH (YC h46 rfl (Pt h46 rfl (iD LZ rfl (Cd rfl ?_ ?_)))))) <;> clear H LZ
     ·intro h43 a H
      try have p43:=dT h43
      refine kP H (SQ fun _ V5=>SC (iD V5 rfl ?_));clear H V5;intro a H;refine lr H results23 rfl ?_
      first
       | exact H.rt (Ej hx uH hk2 he (by rw [yM hk2];(repeat' split) <;> first|rfl|(exfalso;simp_all;done)|(exfalso;simp_all;omega)) (by decide))
       | exact H.rt (by unfold sP;rw [uH (by omega),EO (by omega),dh,ah (by decide),dh,ah (by decide),jU];rfl)
     intro h43 a H
     try have p43:=dF h43
     refine kP H (Kc oN (SC (Rd rfl (Rm rfl ?_))));clear H oN;intro a H;refine aC ?_;refine cB (k+1) (by exact (H).sub ⟨rfl,rfl,rfl,rfl,rfl,rfl,rfl,rfl,bq⟩) ?_ ?_
     ·exact ⟨by omega,MB hk2 he (by rw [yM hk2];(repeat' split) <;> first|rfl|(exfalso;simp_all;done)|(exfalso;simp_all;omega))⟩
     first|omega|(dsimp only;omega)
    intro h46 a H
    try have p46:=dF h46
    refine kH H (lN h46 rfl (nU h46 rfl (nU h46 rfl (Pf h46 rfl (iD LZ rfl (Cf rfl rfl (Kc oN (SC (Rd rfl (Rm rfl ?_))))))))));clear H LZ oN;intro a H;refine aC ?_;refine cB (k+1) (by exact (H).sub ⟨rfl,rfl,rfl,rfl,rfl,rfl,rfl,rfl,bq⟩) ?_ ?_
    ·exact ⟨by omega,MB hk2 he (by rw [yM hk2];(repeat' split) <;> first|rfl|(exfalso;simp_all;done)|(exfalso;simp_all;omega))⟩
    first|omega|(dsimp only;omega)
   intro kY a H
   try have p34:=dF kY
   refine kH H (lN kY rfl (nU kY rfl (nU kY rfl (Pf kY rfl (iD LY rfl (Cf rfl rfl (SQ fun _ L9=>SC (Rm rfl (Rc rfl (Rm rfl (Sp 46 rfl ?_ ?_))))))))))) <;> clear H LY
   ·intro h46 a H
    try have p46:=dT h46
    refine kH H (YM h46 rfl (YM h46 rfl (YM h46 rfl ?_)));clear H;intro a H;refine lK _ H (wg H rfl rfl h46) rfl rfl rfl (by omega) (by omega) rfl ?_;clear H;intro a H;rw [show ((k:Int) - 1)=((k - 1:Nat):Int) by omega] at H;refine kH H (YI uU bR h46 rfl rfl (YR bR h46 rfl mH (YC h46 rfl (Pt h46 rfl (iD L9 rfl (Cd rfl ?_ ?_)))))) <;> clear H L9
    ·intro h43 a H
     try have p43:=dT h43
     refine kP H (SQ fun _ V6=>SC (iD V6 rfl ?_));clear H V6;intro a H;refine lr H results23 rfl ?_
     first
      | exact H.rt (Ej hx uH hk2 he (by rw [yM hk2];(repeat' split) <;> first|rfl|(exfalso;simp_all;done)|(exfalso;simp_all;omega)) (by decide))
      | exact H.rt (by unfold sP;rw [uH (by omega),EO (by omega),dh,ah (by decide),dh,ah (by decide),jU];rfl)
    intro h43 a H
    try have p43:=dF h43
    refine kP H (Kc oN (SC (Rd rfl (Rm rfl ?_))));clear H oN;intro a H;refine aC ?_;refine cB (k+1) (by exact (H).sub ⟨rfl,rfl,rfl,rfl,rfl,rfl,rfl,rfl,bq⟩) ?_ ?_
    ·exact ⟨by omega,MB hk2 he (by rw [yM hk2];(repeat' split) <;> first|rfl|(exfalso;simp_all;done)|(exfalso;simp_all;omega))⟩
    first|omega|(dsimp only;omega)
   intro h46 a H
   try have p46:=dF h46
   refine kH H (lN h46 rfl (nU h46 rfl (nU h46 rfl (Pf h46 rfl (iD L9 rfl (Cf rfl rfl (Kc oN (SC (Rd rfl (Rm rfl ?_))))))))));clear H L9 oN;intro a H;refine aC ?_;refine cB (k+1) (by exact (H).sub ⟨rfl,rfl,rfl,rfl,rfl,rfl,rfl,rfl,bq⟩) ?_ ?_
   ·exact ⟨by omega,MB hk2 he (by rw [yM hk2];(repeat' split) <;> first|rfl|(exfalso;simp_all;done)|(exfalso;simp_all;omega))⟩
   first|omega|(dsimp only;omega)
  intro h20 a H
  try have Fp:=dF h20
  refine yK ?_;refine K6 _ _ ?_;clear K6;refine kP H (SC (Rd rfl (Rm rfl ?_)));clear H;intro a H;refine aC ?_;refine cB (o+1) (by exact (H).sub ⟨rfl,rfl,rfl,rfl,bq⟩) ?_ ?_
  ·exact ⟨by omega,fun _=>by rcases hx with ⟨rfl,rfl⟩|⟨rfl,rfl⟩;exact WV (by omega) he;exact uH (by decide),fun _=>by rcases hx with ⟨rfl,rfl⟩|⟨rfl,rfl⟩;omega;exact WV (by omega) he⟩
  first|omega|(dsimp only;omega)
 intro pV a H
 try have jX:=dF pV
 refine yK ?_;refine K2 _ _ ?_;clear K2;refine kP H (SQ fun _ V7=>SQ fun _ V8=>SC (Rf Ru rfl (Rg AX rfl (aH (by first|assumption|exact fun _ _ h=>h) (hga 0 _ rfl)) ?_)));clear H;intro a H;refine nQ H wn rfl rfl ?_;clear H;intro a H;refine s_call ais H wn rfl (afp _ _ H.ro A _ _ _ hva (aei (aH hmb (hga 1 _ rfl)) mI hlr) hla) rfl ?_;clear H;rintro v60 G60 a w rfl atz H;refine kH H (Kn V8 (Cd rfl ?_ ?_)) <;> clear H V8
 ·intro jU a H
  try have p60:=dT jU
  refine kP H (SQ fun _ V9=>SC (iD V9 rfl ?_));clear H V9;intro a H;refine lr H results23 rfl ?_
  first
   | exact H.rt (Ej hx uH hk2 he (by rw [yM hk2];(repeat' split) <;> first|rfl|(exfalso;simp_all;done)|(exfalso;simp_all;omega)) (by decide))
   | exact H.rt (by unfold sP;rw [uH (by omega),EO (by omega),dh,ah (by decide),dh,ah (by decide),jU];rfl)
 intro jU a H
 try have p60:=dF jU
 refine kP H (Kc V7 (SQ fun _ Wd=>SC (iD Wd rfl ?_)));clear H V7 Wd;intro a H;refine lr H results23 rfl ?_
 first
  | exact H.rt (Ej hx uH hk2 he (by rw [yM hk2];(repeat' split) <;> first|rfl|(exfalso;simp_all;done)|(exfalso;simp_all;omega)) (by decide))
  | exact H.rt (by unfold sP;rw [uH (by omega),EO (by omega),dh,ah (by decide),dh,ah (by decide),jU];rfl)
end
section
open Go.RowKit
theorem XM:∀ args w,(callFunc 17 args).run prog w=.ok (.enter 17 args) w:=enters func17 rfl (by kernel_rfl)
theorem QV:∀ args w,(callFunc 47 args).run prog w=.ok (.enter 47 args) w:=enters func47 rfl (by kernel_rfl)
instance wh:Ty prog 43 2 48 [.slice none 0 0,.slice none 0 0] true:=⟨by kernel_rfl,by kernel_rfl⟩
theorem Jo:∀ args w,(callFunc 65 args).run prog w=.ok (.enter 65 args) w:=enters func65 rfl (by kernel_rfl)
theorem XT:∀ args w,(callFunc 23 args).run prog w=.ok (.enter 23 args) w:=enters func23 rfl (by kernel_rfl)
theorem ahx:∀ args w,(callFunc 22 args).run prog w=.ok (.enter 22 args) w:=enters func22 rfl (by kernel_rfl)
theorem air:∀ args w,(callFunc 73 args).run prog w=.ok (.enter 73 args) w:=enters func73 rfl (by kernel_rfl)
theorem Vp {acc rej:Int→Bool} (G:GH) (w0:World) (hG:Hold G w0) (fv:aj) (hf:Bj fv G acc rej) (D:iE) (d:gI) (hR:jP G D d) (hs:wm 536870912 d) (hc:jc d=0) :
  Calls prog 47 #[fv,D.val] w0 (bC w0 G fun u G'=>∃ D':iE,u=D'.val∧jP G' D' (nD (mY acc rej d))):=by
 obtain ⟨df,dp,dd,dy,dr,d1,d2,d3,d4,ins,mv⟩:=D;have hok:=abu (acc:=acc) (rej:=rej) hc;have hfl:=hs.fl;have hhd:=hs.hd;have hz2:xk (mY acc rej d):=(KL hs (by decide) (by decide)).z;obtain ⟨p1,p2,p3,p4⟩:=aaC hz2 hok;obtain ⟨Sj,Sk,JH,JI,hRr,hRs⟩:=hR;dsimp only at JH JI;subst JH JI;refine eN [(0,_),(1,_)] func47 rfl ntmps47 rfl rfl hG ?_;refine ak 1 ?_;intro a H;refine dP (cs:=[_,_,_,_,_,_,_,_,_,_,_]) H wn rfl rfl rfl ?_;clear H;intro b3 a w hb3 H;refine dz iq H wn rfl ?_;clear H;intro b4 a w hb4 H;refine aD 5 H ?_;clear H;intro a H;refine s_call Q8 H wn rfl (abv 536870913 (bP _) _ _ H.ro hf d.flow _ Sj (by omega)) rfl ?_;clear H;rintro v8 G8 a w Ko kL H;obtain ⟨fA,fn,fc,rfl⟩:=Ko.form;refine aD 1 H ?_;clear H;intro a H;refine aX pG 1 (vs:=[_]) _ H wn rfl rfl rfl rfl rfl rfl rfl rfl ?_;clear H;intro w H;dsimp only [List.set,setRow] at H;refine aD 4 H ?_;clear H;intro a H;refine aR dw (cs:=[_,_,_,_,_]) H wn rfl rfl (H.hp.bO 1 rfl rfl) rfl ?_;clear H;intro a H;refine ji H wn rfl rfl (hf _ _ kL H.ro d.fin _ _ _ (Sk.mono kL) (by omega)) rfl ?_;clear H;rintro v14 zP a w SE wK H;obtain ⟨q1,q2,q3,q4,q5,q6,q7,q8,q9,rfl,SI⟩:=SE.ans;refine aD 1 H ?_;clear H;intro a H;(iterate 2 refine jY H wn rfl rfl rfl ?_;clear H;intro a H);refine aD 1 H ?_;clear H;intro a H;refine aX dw 1 (vs:=[_,_,_,_,_]) _ H wn rfl rfl rfl rfl rfl rfl rfl rfl ?_;clear H;intro w H;dsimp only [List.set,setRow] at H;refine aD 2 H ?_;clear H;intro a H;refine aR iq (cs:=(⟨(fA,fn,fc),(q1,q2,q3),(q4,q5,q6),(q7,q8,q9),dr,d1,d2,d3,d4,(aW acc rej d.fin).marks.ins,(aW acc rej d.fin).marks.move⟩:iE).cells) H wn rfl rfl (H.hp.bO 1 rfl rfl) rfl ?_;clear H;intro a H;refine s_call XM H wn rfl (Xy _ _ H.ro ⟨(fA,fn,fc),(q1,q2,q3),(q4,q5,q6),(q7,q8,q9),dr,d1,d2,d3,d4,(aW acc rej d.fin).marks.ins,(aW acc rej d.fin).marks.move⟩ (mY acc rej d) ⟨Ko.mono wK,SI,rfl,rfl,hRr.mono (fun b o h=>wK b o (kL b o h)),hRs.mono fun b o h=>wK b o (kL b o h)⟩ hz2 p1 p2 p3 p4) rfl ?_;clear H;rintro v19 FT a w ⟨E,rfl,hE⟩ qF H;refine aX iq 0 (vs:=[_,_,_,_,_,_,_,_,_,_,_]) _ H wn rfl rfl rfl rfl rfl rfl rfl rfl ?_;clear H;intro w H;dsimp only [List.set,setRow] at H;refine aC ?_;refine dQ ?_;refine cu ?_;refine (leave1 H results47 (.cons (kT iq (cs:=[_,_,_,_,_,_,_,_,_,_,_]) H rfl rfl (H.hp.bO 0 rfl rfl)) .nil) ?_).1;exact H.rt ⟨E,rfl,hE⟩
theorem apn (G:GH) (w0:World) (hG:Hold G w0) (D:iE) (d:gI) (hR:jP G D d) (hs:wm 536870912 d) (hc:jc d=0) :
  Calls prog 14 #[D.val] w0 (bC w0 G fun u G'=>∃ D':iE,u=D'.val∧jP G' D' (nD (mY (fun _=>false) (fun _=>true) d))):=by
 refine eN [(0,_)] func14 rfl ntmps14 rfl rfl hG ?_;refine ak 1 ?_;intro a H;refine dP (cs:=[_,_,_,_,_,_,_,_,_,_,_]) H wn rfl rfl rfl ?_;clear H;intro b1 a w hb1 H;refine dz iq H wn rfl ?_;clear H;intro b2 a w hb2 H;refine aD 2 H ?_;clear H;intro a H;refine aR iq (cs:=[_,_,_,_,_,_,_,_,_,_,_]) H wn rfl rfl (H.hp.bO 1 rfl rfl) rfl ?_;clear H;intro a H;refine s_call QV H wn rfl (Vp _ _ H.ro _ (apJ _) D d hR hs hc) rfl ?_;clear H;rintro v4 G4 a w ⟨E,rfl,hE⟩ JV H;refine aX iq 0 (vs:=[_,_,_,_,_,_,_,_,_,_,_]) _ H wn rfl rfl rfl rfl rfl rfl rfl rfl ?_;clear H;intro w H;dsimp only [List.set,setRow] at H;refine aC ?_;refine dQ ?_;refine cu ?_;refine (leave1 H results14 (.cons (kT iq (cs:=[_,_,_,_,_,_,_,_,_,_,_]) H rfl rfl (H.hp.bO 0 rfl rfl)) .nil) ?_).1;exact H.rt ⟨E,rfl,hE⟩
theorem apm (G:GH) (w0:World) (hG:Hold G w0) (D:iE) (d:gI) (hR:jP G D d) (hs:wm 536870912 d) (hc:jc d=0) :
  Calls prog 15 #[D.val] w0 (bC w0 G fun u G'=>∃ D':iE,u=D'.val∧jP G' D' (nD (mY (fun _=>true) (fun _=>false) d))):=by
 refine eN [(0,_)] func15 rfl ntmps15 rfl rfl hG ?_;refine ak 1 ?_;intro a H;refine dP (cs:=[_,_,_,_,_,_,_,_,_,_,_]) H wn rfl rfl rfl ?_;clear H;intro b1 a w hb1 H;refine dz iq H wn rfl ?_;clear H;intro b2 a w hb2 H;refine aD 2 H ?_;clear H;intro a H;refine aR iq (cs:=[_,_,_,_,_,_,_,_,_,_,_]) H wn rfl rfl (H.hp.bO 1 rfl rfl) rfl ?_;clear H;intro a H;refine s_call QV H wn rfl (Vp _ _ H.ro _ (apI _) D d hR hs hc) rfl ?_;clear H;rintro v4 G4 a w ⟨E,rfl,hE⟩ JV H;refine aX iq 0 (vs:=[_,_,_,_,_,_,_,_,_,_,_]) _ H wn rfl rfl rfl rfl rfl rfl rfl rfl ?_;clear H;intro w H;dsimp only [List.set,setRow] at H;refine aC ?_;refine dQ ?_;refine cu ?_;refine (leave1 H results15 (.cons (kT iq (cs:=[_,_,_,_,_,_,_,_,_,_,_]) H rfl rfl (H.hp.bO 0 rfl rfl)) .nil) ?_).1;exact H.rt ⟨E,rfl,hE⟩
theorem aoY {G:GH} {b:Nat} {A R:List Int} {aA rA:Option Addr} {an ac rn rc:Nat} (hb:G b=some (.cells #[.slice aA an ac,.slice rA rn rc] 43 (0,0))) (hva:au G (.sl 1 (A.map fun k=>[li k])) (.slice aA an ac)) (mI:au G (.sl 1 (R.map fun k=>[li k])) (.slice rA rn rc)) (hla:A.length≤4294967296) (hlr:R.length≤4294967296) :
  Bj (.func (.func 73) #[] #[(aG b 0)]) G (lsB A) (lsB R):=by
 intro G1 w0 hm hG h p d l hh hz;refine iM (caps:=[(aG b 0)]) air ?_;have hga:=fun j v hj=>aH hm (kW hb 0 [.slice aA an ac,.slice rA rn rc] rfl j v hj);replace hva:=hva.mono hm;replace mI:=mI.mono hm;obtain ⟨pA,pn,pc,rfl⟩:=hh.props.form;obtain ⟨dA,dn,dc,rfl⟩:=hh.bL.form;obtain ⟨lA,ln,lc,rfl⟩:=hh.layers.form;refine eN [(0,_),(1,_)] func73 rfl ntmps73 rfl rfl hG ?_;refine ak 1 ?_;intro a H;refine dP (cs:=[_,_,_,_,_]) H wn rfl rfl rfl ?_;clear H;intro b2 a w hb2 H;refine dz dw H wn rfl ?_;clear H;intro b3 a w hb3 H;refine aD 3 H ?_;clear H;intro a H;refine aR dw (cs:=[_,_,_,_,_]) H wn rfl rfl (H.hp.bO 1 rfl rfl) rfl ?_;clear H;intro a H;refine aR wh (cs:=[.slice aA an ac,.slice rA rn rc]) H wn rfl rfl (fun j v hj=>H.hp.aI (hga j v hj)) rfl ?_;clear H;intro a H;refine s_call Jo H wn rfl (KC _ _ H.ro A R aA rA an ac rn rc hva mI hla hlr h _ _ _ hh hz) rfl ?_;clear H;rintro v7 G7 a w hd7 wL H;obtain ⟨q1,q2,q3,q4,q5,q6,q7,q8,q9,rfl,yZ⟩:=hd7.ans;(iterate 2 refine jY H wn rfl rfl rfl ?_;clear H;intro a H);refine aX dw 0 (vs:=[_,_,_,_,_]) _ H wn rfl rfl rfl rfl rfl rfl rfl rfl ?_;clear H;intro w H;dsimp only [List.set,setRow] at H;refine aD 2 H ?_;clear H;intro a H;refine cu ?_;refine (eU H results73 (.cons (kT dw (cs:=[_,_,_,_,_]) H rfl rfl (H.hp.bO 0 rfl rfl)) (.cons (aZ H rfl) .nil)) ?_).1;exact H.rt (ni.Oe yZ)
def Vz:gI:=⟨[],zM,[],⟨[],[],[],[]⟩⟩
def Cg (A R:List Int) (d:gI):gI:=if sP A R=0 then nD (mY (lsB A) (lsB R) d) else Vz
theorem apo (G:GH) (w0:World) (hG:Hold G w0) (D:iE) (d:gI) (hR:jP G D d) (hs:wm 536870912 d) (hc:jc d=0) (A R:List Int) (va vr:aj) (hva:au G (.sl 1 (A.map fun k=>[li k])) va) (mI:au G (.sl 1 (R.map fun k=>[li k])) vr) (hla:A.length≤4294967296) (hlr:R.length≤4294967296) :
  Calls prog 22 #[D.val,.agg #[va,vr]] w0 (bC w0 G fun u G'=>∃ D':iE,u=.tuple #[D'.val,vi (sP A R)]∧jP G' D' (Cg A R d)):=by
 obtain ⟨aA,an,ac,rfl⟩:=hva.form;obtain ⟨rA,rn,rc,rfl⟩:=mI.form;refine eN [(0,_),(1,_)] func22 rfl ntmps22 rfl rfl hG ?_;refine ak 1 ?_;intro a H;refine dP (cs:=[_,_,_,_,_,_,_,_,_,_,_]) H wn rfl rfl rfl ?_;clear H;intro b2 a w hb2 H;refine dP (cs:=[_,_]) H wn rfl rfl rfl ?_;clear H;intro b3 a w hb3 H;refine dz iq H wn rfl ?_;clear H;intro b4 a w hb4 H;refine aD 3 H ?_;clear H;intro a H;have H:=H.dY (Pl:=[_,_,_]) (dJ:=[_,_,_]) [1,0,2] (by decide) rfl;obtain ⟨Ga,hma,hb',H⟩:=H.eu;have hga:=fun j v hj=>kW hb' 0 [.slice aA an ac,.slice rA rn rc] rfl j v hj;replace hva:=hva.mono hma;replace mI:=mI.mono hma;replace hR:=hR.mono hma;refine yP ?_;refine aR wh (cs:=[.slice aA an ac,.slice rA rn rc]) H wn rfl rfl (fun j v hj=>H.hp.aI (hga j v hj)) rfl ?_;clear H;intro a H;refine s_call XT H wn rfl (WX _ _ H.ro A R _ _ hva mI hla hlr) rfl ?_;clear H;rintro v8 G8 a w rfl kL H;refine gF 6 H ?_ ?_ <;> clear H
 ·intro gX
  refine ak 1 ?_;intro a H;refine jh OX [_,_,_,_,_,_,_,_,_,_,_] H wn rfl rfl rfl rfl ?_;clear H;refine ak 1 ?_;intro a H;refine aX iq 0 (vs:=[_,_,_,_,_,_,_,_,_,_,_]) _ H wn rfl rfl rfl rfl rfl rfl rfl rfl ?_;clear H;intro w H;dsimp only [List.set,setRow] at H;refine aD 2 H ?_;clear H;intro a H;refine cu ?_;refine (eU H results22 (.cons (kT iq (cs:=[_,_,_,_,_,_,_,_,_,_,_]) H rfl rfl (H.hp.bO 0 rfl rfl)) (.cons (aZ H rfl) .nil)) ?_).1
  first
   | exact H.rt ⟨E,by rw [show sP A R=0 from by simp_all],by unfold Cg;rw [av (by simp_all)];exact hE⟩
   | exact H.rt ⟨⟨(none,0,0),(none,0,0),(none,0,0),(none,0,0),(none,0,0),(none,0,0),(none,0,0),(none,0,0),(none,0,0),0,0⟩,rfl,by unfold Cg;rw [ah (by simp_all)];exact ⟨au.iH rfl (by decide),FN _,rfl,rfl,au.iH rfl (by decide),au.iH rfl (by decide),au.iH rfl (by decide),au.iH rfl (by decide),au.iH rfl (by decide)⟩⟩
 intro gX
 refine ak 2 ?_;intro a H;refine nQ H wn rfl rfl ?_;clear H;intro a H;refine aR iq (cs:=[_,_,_,_,_,_,_,_,_,_,_]) H wn rfl rfl (H.hp.bO 1 rfl rfl) rfl ?_;clear H;intro a H;refine s_call QV H wn rfl (Vp _ _ H.ro _ (aoY (kL _ _ hb') (hva.mono kL) (mI.mono kL) hla hlr) D d (hR.mono kL) hs hc) rfl ?_;clear H;rintro v15 Bg a w ⟨E,rfl,hE⟩ ze H;refine aX iq 0 (vs:=[_,_,_,_,_,_,_,_,_,_,_]) _ H wn rfl rfl rfl rfl rfl rfl rfl rfl ?_;clear H;intro w H;dsimp only [List.set,setRow] at H;refine aD 2 H ?_;clear H;intro a H;refine cu ?_;refine (eU H results22 (.cons (kT iq (cs:=[_,_,_,_,_,_,_,_,_,_,_]) H rfl rfl (H.hp.bO 0 rfl rfl)) (.cons (aZ H rfl) .nil)) ?_).1
 first
  | exact H.rt ⟨E,by rw [show sP A R=0 from by simp_all],by unfold Cg;rw [av (by simp_all)];exact hE⟩
  | exact H.rt ⟨⟨(none,0,0),(none,0,0),(none,0,0),(none,0,0),(none,0,0),(none,0,0),(none,0,0),(none,0,0),(none,0,0),0,0⟩,rfl,by unfold Cg;rw [ah (by simp_all)];exact ⟨au.iH rfl (by decide),FN _,rfl,rfl,au.iH rfl (by decide),au.iH rfl (by decide),au.iH rfl (by decide),au.iH rfl (by decide),au.iH rfl (by decide)⟩⟩
end
section
open Go.RowKit
section
variable {N:Nat} {D:List Deferred} {w0:World} {F:Nat→Prop} {G0 G G1 G2:GH} {L L1 L2:OL} {T Xs:List (Nat × aj)}
variable {r:Option Nat} {P:Program} {Q:Exit→Act→World→Prop} {l:List Oper} {a a':Act} {w w':World}
theorem adY {id:Nat} {κ:Type} (k0:κ) (hm:P.follows .mixedOrders=true) (bJ:List (List Nat)) (B:List Nat) (hk:wD l bJ=true) (hB:uQ l bJ B=true) (m0 m1 m2:Nat) (ND:B.contains m2=false) (h02:(bJ.getD m2 []).contains m0=true) (h12:(bJ.getD m2 []).contains m1=true) (hne:Nat.beq m1 m2=false) (hne0:Nat.beq m0 m2=false) (hne1:Nat.beq m0 m1=false) (Fg:Obj) (Cb:κ→Obj) (pr:Nat→κ→Nat→aj→GH→Prop)
  (hp1:∀ b b' k i v G,Nat.beq i m1=false→(bJ.getD i []).contains m1=false→pr b k i v G→pr b' k i v G)
  (hp0:∀ b k k' i v G,Nat.beq i m0=false→(bJ.getD i []).contains m0=false→pr b k i v G→pr b k' i v G)
  (H:St N D w0 F G0 G L T a w)
  (hstep:allI (fun i o=>∀ b k L' S a w G1,(∀ x,x∈L→x∈L')→B.contains i=false→Nat.beq i m0=false→Nat.beq i m1=false→Nat.beq i m2=false→S i=false→(∀ j∈bJ.getD i [],S j=true)→(∀ k o,G k=some o→G1 k=some o)→St N D w0 F G0 G1 L' T a w→(∀ i d,S i=true→dX l i=some d→∃ v,a.tmps[d]?=some v∧pr b k i v G1) →
   WL r P l.toArray (fun e a' w'=>e=.normal∧DX N D w0 F G0 G L' T l (pr b k) (cZ S i) a' w') [o] a w) 0 l)
  (alM:∀ o b L' S a w G1,(∀ x,x∈L→x∈L')→l[m0]?=some o→S m0=false→(∀ j∈bJ.getD m0 [],S j=true)→(∀ k o,G k=some o→G1 k=some o)→St N D w0 F G0 G1 L' T a w→(∀ k i d,i≠m0→S i=true→dX l i=some d→∃ v,a.tmps[d]?=some v∧pr b k i v G1) →
   WL r P l.toArray (fun e a' w'=>e=.normal∧∃ k,DX N D w0 F G0 G L' T l (pr b k) (cZ S m0) a' w') [o] a w)
  (J3:∀ o k S a w G1,l[m1]?=some o→S m1=false→(∀ j∈bJ.getD m1 [],S j=true)→(∀ k o,G k=some o→G1 k=some o)→St N D w0 F G0 G1 L T a w→(∀ b i d,i≠m1→S i=true→dX l i=some d→∃ v,a.tmps[d]?=some v∧pr b k i v G1) →
   WL r P l.toArray (fun e a' w'=>e=.normal∧∃ b,DX N D w0 F G0 G ((b,Fg) :: L) T l (pr b k) (cZ S m1) a' w') [o] a w)
  (J4:∀ o b k S a w G1,l[m2]?=some o→S m2=false→(∀ j∈bJ.getD m2 [],S j=true)→(∀ k o,G k=some o→G1 k=some o)→St N D w0 F G0 G1 ((b,Fg) :: L) T a w→(∀ i d,S i=true→dX l i=some d→∃ v,a.tmps[d]?=some v∧pr b k i v G1) →
   WL r P l.toArray (fun e a' w'=>e=.normal∧DX N D w0 F G0 G ((b,Cb k) :: L) T l (pr b k) (cZ S m2) a' w') [o] a w)
  (hend:∀ b k a w G1,(∀ k o,G k=some o→G1 k=some o)→St N D w0 F G0 G1 ((b,Cb k) :: L) T a w→(∀ i d,B.contains i=false→dX l i=some d→∃ v,a.tmps[d]?=some v∧pr b k i v G1)→WL r P l.toArray (fun e a w=>e=.normal∧Q .normal a w) (oh l B) a w)
  (EL:Nat.blt m2 l.length=true):WP r P (.region id l.toArray true) Q a w:=by
 have hne':m1≠m2:=fun e=>by subst e;rw [Nat.beq_refl] at hne;cases hne
 have alP:m0≠m2:=fun e=>by subst e;rw [Nat.beq_refl] at hne0;cases hne0
 have J5:m0≠m1:=fun e=>by subst e;rw [Nat.beq_refl] at hne1;cases hne1
 refine Ei hm bJ B hk hB (fun S a w=>(S m2=true→S m1=true∧S m0=true)∧∃ b k L',L'=(bif S m2 then (b,Cb k) :: L else bif S m1 then (b,Fg) :: L else L)∧DX N D w0 F G0 G L' T l (pr b k) S a w)
  ⟨fun h=>⟨h,h⟩,0,k0,L,rfl,G,fun _ _ h=>h,H.move H.hp.drew,fun _ _ h=>absurd (show false=true from h) (by decide)⟩ ?_ ?_
 ·rintro i o S a w ho hb aL iK hdesc ⟨Dl,b,k,L',hL,G1,hG,HS,hv⟩
  have hsub:∀ x,x∈L→x∈L':=fun x hx=>by
   rw [hL]
   cases S m2 with
   | true=>exact gB _ hx
   | false=>cases S m1 with
    | true=>exact gB _ hx
    | false=>exact hx
  have hno:∀ j,j < l.length→S j=true→(bJ.getD j []).contains i=false:=fun j hjl hj=>by
   cases hc:(bJ.getD j []).contains i with
   | false=>rfl
   | true =>
    have:=hdesc j hjl (by simpa using hc)
    rw [this] at hj;cases hj
  have hnot:i=m1∨i=m0→S m2=false:=fun h=>by
   cases hs:S m2 with
   | false=>rfl
   | true =>
    obtain ⟨g1,g0⟩:=Dl hs
    rcases h with rfl|rfl
    ·rw [g1] at aL;cases aL
    ·rw [g0] at aL;cases aL
  by_cases h1:i=m1
  ·have hs2:=hnot (.inl h1);clear hnot
   subst h1
   rw [hs2,aL] at hL
   subst hL
   have h:=J3 o k S a w G1 ho aL iK hG HS fun b' j d hj hSj hd=>by
    obtain ⟨v,hv1,hv2⟩:=hv j d hSj hd
    exact ⟨v,hv1,hp1 b b' k j v _ (nW hj) (hno j (qB hd) hSj) hv2⟩
   refine lC (fun e a' w' ⟨he,b',hD⟩=>⟨he,fun hx=>?_,b',k,_,?_,hD⟩) h
   ·rw [show cZ S i m2=S m2 from ah (fun e=>hne' e.symm),hs2] at hx;cases hx
   ·rw [show cZ S i i=true from av rfl,show cZ S i m2=S m2 from ah (fun e=>hne' e.symm),hs2]
    rfl
  ·by_cases h2:i=m2
   ·subst h2
    have hs1:S m1=true:=iK m1 (by simpa using h12)
    have hs0:S m0=true:=iK m0 (by simpa using h02)
    rw [aL,hs1] at hL
    subst hL
    have h:=J4 o b k S a w G1 ho aL iK hG HS hv
    refine lC (fun e a' w' ⟨he,hD⟩=>⟨he,fun _=>?_,b,k,_,?_,hD⟩) h
    ·rw [show cZ S i m1=S m1 from ah hne',show cZ S i m0=S m0 from ah alP];exact ⟨hs1,hs0⟩
    ·rw [show cZ S i i=true from av rfl]
     rfl
   ·have e1:cZ S i m1=S m1:=ah (fun e=>h1 e.symm)
    have e2:cZ S i m2=S m2:=ah (fun e=>h2 e.symm)
    by_cases h0:i=m0
    ·have hs2:=hnot (.inr h0);clear hnot
     subst h0
     have h:=alM o b L' S a w G1 hsub ho aL iK hG HS fun k' j d hj hSj hd=>by
      obtain ⟨v,hv1,hv2⟩:=hv j d hSj hd
      exact ⟨v,hv1,hp0 b k k' j v _ (nW hj) (hno j (qB hd) hSj) hv2⟩
     refine lC (fun e a' w' ⟨he,k',hD⟩=>⟨he,fun hx=>?_,b,k',L',?_,hD⟩) h
     ·rw [e2,hs2] at hx;cases hx
     ·rw [e1,e2,hL,hs2];rfl
    ·have h:=yH hstep i o ho
     rw [fU] at h
     have e0:cZ S i m0=S m0:=ah (fun e=>h0 e.symm)
     refine lC (fun e a' w' ⟨he,hD⟩=>⟨he,by rw [e1,e2,e0];exact Dl,b,k,L',?_,hD⟩) (h b k L' S a w G1 hsub hb (nW h0) (nW h1) (nW h2) aL iK hG HS hv)
     rw [e1,e2];exact hL
 ·rintro S a w hall H8 ⟨Dl,b,k,L',hL,G1,hG,HS,hv⟩
  have hs2:S m2=true:=hall m2 (Eq.mp Nat.blt_eq EL) ND
  rw [hs2] at hL
  subst hL
  exact hend b k a w G1 hG HS fun j d hb hd=>hv j d (hall j (qB hd) hb) hd
end
end
section
open Go.RowKit
theorem QY:∀ args w,(callFunc 64 args).run prog w=.ok (.enter 64 args) w:=enters func64 rfl (by kernel_rfl)
theorem agb:∀ args w,(callFunc 117 args).run prog w=.ok (.enter 117 args) w:=enters func117 rfl (by kernel_rfl)
theorem ni.mono {acc rej:Int→Bool} {h:dW} {u:aj} {G G':GH} (hm:∀ b o,G b=some o→G' b=some o) (hd:ni acc rej h u G):ni acc rej h u G':=by
 unfold ni at hd ⊢
 split
 ·rename_i hg
  rw [av hg] at hd;obtain ⟨p,d,l,e,hh⟩:=hd;exact ⟨p,d,l,e,hh.mono hm⟩
 rename_i hg
 rw [ah hg] at hd;obtain ⟨p,d,l,e,hh⟩:=hd;exact ⟨p,d,l,e,hh.mono hm⟩
structure Bc (G:GH) (A R:List Int) (va vr:aj):Prop where
 ha:au G (.sl 1 (A.map fun k=>[li k])) va
 hr:au G (.sl 1 (R.map fun k=>[li k])) vr
 la:A.length≤4294967296
 lr:R.length≤4294967296
theorem Bc.mono {G G':GH} {A R:List Int} {va vr:aj} (hm:∀ b o,G b=some o→G' b=some o) (h:Bc G A R va vr):Bc G' A R va vr:=⟨h.ha.mono hm,h.hr.mono hm,h.la,h.lr⟩
variable {A R:List Int} {aA rA:Option Addr} {an ac rn rc:Nat}
def Me (A R:List Int) (va vr:aj) (n:Nat):Prop:=∀ (G:GH) (w0:World),Hold G w0→Bc G A R va vr→∀ (l:List ay) (v:aj),au G (.sl 11 (l.map ay.dat)) v→bZ l < n →
 Calls prog 64 #[v,.agg #[va,vr]] w0 (bC w0 G fun u G'=>au G' (.sl 11 ((fC (lsB A) (lsB R) l).map ay.dat)) u)
theorem anM {n:Nat} (ih:Me A R (.slice aA an ac) (.slice rA rn rc) n) (hn:n≤536870913) (G:GH) (w0:World) (hG:Hold G w0) (hd:Bc G A R (.slice aA an ac) (.slice rA rn rc)) (l:List aV) (v:aj) (hv:au G (.sl 6 (l.map aV.dat)) v) (hz:gH l < n) :
  Calls prog 117 #[v,.agg #[.slice aA an ac,.slice rA rn rc]] w0 (bC w0 G fun u G'=>au G' (.sl 6 ((jC (lsB A) (lsB R) l).map aV.dat)) u):=by
 obtain ⟨LA,Ma,rfl,hc1,hc2,hg⟩:=hv.slice
 have hml:4294967297≤maxLen:=by decide
 have hll:=IQ l;rw [bM] at *;refine eN [(0,_),(1,_)] func117 rfl ntmps117 rfl rfl hG ?_;refine ak 1 ?_;intro a H;refine dP (cs:=[_,_]) H wn rfl rfl rfl ?_;clear H;intro b3 a w hb3 H;refine aD 2 H ?_;clear H;intro a H;obtain ⟨Ga,hma,hb',H⟩:=H.eu;have hga:=fun j v hj=>kW hb' 0 [.slice aA an ac,.slice rA rn rc] rfl j v hj;refine fM 8 H ?_;clear H;intro a H;refine eH (ι:=Nat × aj × List aj × OL × GH) (Tc:=[(0,_),(3,_)]) (Lc:=[]) (fun gh=>[(5,gh.2.1),(6,vi gh.1)]) (fun gh=>[]++gh.2.2.2.1) (fun gh=>gh.2.2.2.2) (fun gh=>gh.1≤l.length∧bV 74 6 gh.2.1 (jC (lsB A) (lsB R) (l.take gh.1)).length gh.2.2.1 gh.2.2.2.1∧bU gh.2.2.2.2 6 ((jC (lsB A) (lsB R) (l.take gh.1)).map aV.dat) gh.2.2.1∧(∀ b o,Ga b=some o→gh.2.2.2.2 b=some o)) (fun gh=>l.length - gh.1) ((0,.slice none 0 0,[],[],Ga)) sB ?_ ?_
 ·exact ⟨by omega,bV.nil,bU.nil,fun _ _ h=>h⟩
 clear H;rintro ⟨k,v,xs,Lo,g⟩ a w hI H;dsimp only at hI H;obtain ⟨hk,hrw,dV,hgm⟩:=hI;have hrl:=OE (acc:=lsB A) (rej:=lsB R) (l.take k);rw [List.length_take] at hrl;have rO:∀ b o,G b=some o→g b=some o:=fun b o h=>hgm b o (hma b o h);dsimp only [lca,bG] at H;refine dO 7 H ?_ ?_ <;> clear H
 ·intro jH
  have hk2:k < l.length:=by omega
  obtain ⟨b_,o_,pA,pn,pc,dA,dn,dc,yA,yn,yc,cA,cn,cc,rfl,hrow,hhd,hcl⟩:=KJ hk2 hg;replace hrow:=fun j u hj=>aH rO (hrow j u hj);replace hhd:=hhd.mono rO;replace hcl:=hcl.mono rO
  have BR:∀ j u,[.slice pA pn pc,vi l[k].head.marks.ins,vi l[k].head.marks.move,.slice dA dn dc,.slice yA yn yc][j]?=some u→aI g b_ (o_+k*6+0+j)=some u:=fun j u hj=>by
   have hj5:j < 5:=by by_cases h:j < 5;exact h;rw [List.getElem?_eq_none (by simpa using h)] at hj;cases hj
   refine hrow j u ?_
   match j,hj5 with
   | 0,_=>exact hj
   | 1,_=>exact hj
   | 2,_=>exact hj
   | 3,_=>exact hj
   | 4,_=>exact hj
  have hzr:=LG hk2;have hce:=UM (acc:=lsB A) (rej:=lsB R) l[k];obtain ⟨cA',cc',hcs,Sz,alb,hgc⟩:=hcl.slice
  intro a H;injection hcs with e1 e2 e3
  rw [bM] at e2 Sz;subst e1 e2 e3;have ale:=IK l[k].cells;refine fM 4 H ?_;clear H
  have oI:∀ (aJ:Nat) (bT:(Option Addr × Nat × Nat) × (Option Addr × Nat × Nat) × (Option Addr × Nat × Nat)) (aQ:Nat) (v:aj) (G G':GH),(∀ k o,G k=some o→G' k=some o)→(fun (aJ:Nat) (bT:(Option Addr × Nat × Nat) × (Option Addr × Nat × Nat) × (Option Addr × Nat × Nat)) (aQ:Nat) (v:aj) (G:GH)=>match aQ with|0=>v=.slice (some ⟨b_,o_,none⟩) l.length Ma|1=>v=vi k|2=>v=(aG b_ (o_+k*6))|3=>v=(aG b_ (o_+k*6+0))|4=>v=.agg #[.slice pA pn pc,vi l[k].head.marks.ins,vi l[k].head.marks.move,.slice dA dn dc,.slice yA yn yc]|5=>v=.agg #[.slice aA an ac,.slice rA rn rc]|6=>v=.tuple #[.agg #[aM bT.1,vi (aW (lsB A) (lsB R) l[k].head).marks.ins,vi (aW (lsB A) (lsB R) l[k].head).marks.move,aM bT.2.1,aM bT.2.2],.bool (!decide (kX (lsB A) (lsB R) l[k].head))]∧fD G (aW (lsB A) (lsB R) l[k].head) (aM bT.1) (aM bT.2.1) (aM bT.2.2)|7=>v=.tuple #[.agg #[aM bT.1,vi (aW (lsB A) (lsB R) l[k].head).marks.ins,vi (aW (lsB A) (lsB R) l[k].head).marks.move,aM bT.2.1,aM bT.2.2],.bool (!decide (kX (lsB A) (lsB R) l[k].head))]∧fD G (aW (lsB A) (lsB R) l[k].head) (aM bT.1) (aM bT.2.1) (aM bT.2.2)|8=>v=.agg #[aM bT.1,vi (aW (lsB A) (lsB R) l[k].head).marks.ins,vi (aW (lsB A) (lsB R) l[k].head).marks.move,aM bT.2.1,aM bT.2.2]∧fD G (aW (lsB A) (lsB R) l[k].head) (aM bT.1) (aM bT.2.1) (aM bT.2.2)|9=>v=.bool (!decide (kX (lsB A) (lsB R) l[k].head))|10=>v=(aG aJ 0)|_=>True) aJ bT aQ v G→(fun (aJ:Nat) (bT:(Option Addr × Nat × Nat) × (Option Addr × Nat × Nat) × (Option Addr × Nat × Nat)) (aQ:Nat) (v:aj) (G:GH)=>match aQ with|0=>v=.slice (some ⟨b_,o_,none⟩) l.length Ma|1=>v=vi k|2=>v=(aG b_ (o_+k*6))|3=>v=(aG b_ (o_+k*6+0))|4=>v=.agg #[.slice pA pn pc,vi l[k].head.marks.ins,vi l[k].head.marks.move,.slice dA dn dc,.slice yA yn yc]|5=>v=.agg #[.slice aA an ac,.slice rA rn rc]|6=>v=.tuple #[.agg #[aM bT.1,vi (aW (lsB A) (lsB R) l[k].head).marks.ins,vi (aW (lsB A) (lsB R) l[k].head).marks.move,aM bT.2.1,aM bT.2.2],.bool (!decide (kX (lsB A) (lsB R) l[k].head))]∧fD G (aW (lsB A) (lsB R) l[k].head) (aM bT.1) (aM bT.2.1) (aM bT.2.2)|7=>v=.tuple #[.agg #[aM bT.1,vi (aW (lsB A) (lsB R) l[k].head).marks.ins,vi (aW (lsB A) (lsB R) l[k].head).marks.move,aM bT.2.1,aM bT.2.2],.bool (!decide (kX (lsB A) (lsB R) l[k].head))]∧fD G (aW (lsB A) (lsB R) l[k].head) (aM bT.1) (aM bT.2.1) (aM bT.2.2)|8=>v=.agg #[aM bT.1,vi (aW (lsB A) (lsB R) l[k].head).marks.ins,vi (aW (lsB A) (lsB R) l[k].head).marks.move,aM bT.2.1,aM bT.2.2]∧fD G (aW (lsB A) (lsB R) l[k].head) (aM bT.1) (aM bT.2.1) (aM bT.2.2)|9=>v=.bool (!decide (kX (lsB A) (lsB R) l[k].head))|10=>v=(aG aJ 0)|_=>True) aJ bT aQ v G':=by
   intro aJ bT aQ v G G' hm h
   match aQ,h with
   | 0,h=>exact h
   | 1,h=>exact h
   | 2,h=>exact h
   | 3,h=>exact h
   | 4,h=>exact h
   | 5,h=>exact h
   | 6,h=>exact ⟨h.1,h.2.mono hm⟩
   | 7,h=>exact ⟨h.1,h.2.mono hm⟩
   | 8,h=>exact ⟨h.1,h.2.mono hm⟩
   | 9,h=>exact h
   | 10,h=>exact h
   | 11,h=>exact trivial
   | 12,h=>exact trivial
   | _+13,h=>exact trivial
  intro a H;refine adY (κ:=(Option Addr × Nat × Nat) × (Option Addr × Nat × Nat) × (Option Addr × Nat × Nat)) (((none,0,0),(none,0,0),(none,0,0))) (hmx) [[],[],[0,1],[0,1,2],(ra 0 4),[],(ra 0 6),(ra 0 7),(ra 0 8),(ra 0 8),[],(ra 0 9++[10]),(ra 0 12)] [12] (by kernel_rfl) (by kernel_rfl) 6 10 11 (by decide) (by decide) (by decide) (by decide) (by decide) (by decide) (.cells #[.slice none 0 0,vi 0,vi 0,.slice none 0 0,.slice none 0 0] 29 (0,0)) (fun k_=>.cells #[aM k_.1,vi (aW (lsB A) (lsB R) l[k].head).marks.ins,vi (aW (lsB A) (lsB R) l[k].head).marks.move,aM k_.2.1,aM k_.2.2] 29 (0,0)) (fun (aJ:Nat) (bT:(Option Addr × Nat × Nat) × (Option Addr × Nat × Nat) × (Option Addr × Nat × Nat)) (aQ:Nat) (v:aj) (G:GH)=>match aQ with|0=>v=.slice (some ⟨b_,o_,none⟩) l.length Ma|1=>v=vi k|2=>v=(aG b_ (o_+k*6))|3=>v=(aG b_ (o_+k*6+0))|4=>v=.agg #[.slice pA pn pc,vi l[k].head.marks.ins,vi l[k].head.marks.move,.slice dA dn dc,.slice yA yn yc]|5=>v=.agg #[.slice aA an ac,.slice rA rn rc]|6=>v=.tuple #[.agg #[aM bT.1,vi (aW (lsB A) (lsB R) l[k].head).marks.ins,vi (aW (lsB A) (lsB R) l[k].head).marks.move,aM bT.2.1,aM bT.2.2],.bool (!decide (kX (lsB A) (lsB R) l[k].head))]∧fD G (aW (lsB A) (lsB R) l[k].head) (aM bT.1) (aM bT.2.1) (aM bT.2.2)|7=>v=.tuple #[.agg #[aM bT.1,vi (aW (lsB A) (lsB R) l[k].head).marks.ins,vi (aW (lsB A) (lsB R) l[k].head).marks.move,aM bT.2.1,aM bT.2.2],.bool (!decide (kX (lsB A) (lsB R) l[k].head))]∧fD G (aW (lsB A) (lsB R) l[k].head) (aM bT.1) (aM bT.2.1) (aM bT.2.2)|8=>v=.agg #[aM bT.1,vi (aW (lsB A) (lsB R) l[k].head).marks.ins,vi (aW (lsB A) (lsB R) l[k].head).marks.move,aM bT.2.1,aM bT.2.2]∧fD G (aW (lsB A) (lsB R) l[k].head) (aM bT.1) (aM bT.2.1) (aM bT.2.2)|9=>v=.bool (!decide (kX (lsB A) (lsB R) l[k].head))|10=>v=(aG aJ 0)|_=>True) (fun b b' k i v G hi hc h=>by match i,hi,hc,h with|0,_,_,h=>exact h|1,_,_,h=>exact h|2,_,_,h=>exact h|3,_,_,h=>exact h|4,_,_,h=>exact h|5,_,_,h=>exact h|6,_,_,h=>exact h|7,_,_,h=>exact h|8,_,_,h=>exact h|9,_,_,h=>exact h|10,hi,_,_=>exact absurd hi (by decide)|11,_,hc,_=>exact absurd hc (by decide)|12,_,hc,_=>exact absurd hc (by decide)|_+13,_,_,_=>exact trivial) (fun b k k' i v G hi hc h=>by match i,hi,hc,h with|0,_,_,h=>exact h|1,_,_,h=>exact h|2,_,_,h=>exact h|3,_,_,h=>exact h|4,_,_,h=>exact h|5,_,_,h=>exact h|6,hi,_,_=>exact absurd hi (by decide)|7,_,hc,_=>exact absurd hc (by decide)|8,_,hc,_=>exact absurd hc (by decide)|9,_,hc,_=>exact absurd hc (by decide)|10,_,_,h=>exact h|11,_,hc,_=>exact absurd hc (by decide)|12,_,hc,_=>exact absurd hc (by decide)|_+13,_,_,_=>exact trivial) H ?_ ?_ ?_ ?_ ?_ (by kernel_rfl)
  ·clear H;refine aF ?_ ?_ ?_ ?_ (aF ?_ ?_ ?_ ?_ (aF ?_ ?_ ?_ ?_ (bH ?_ cO)))
   ·intro aJ bT dH aS a w G1 dN _ _ _ _ aL hc hG HT hv;have H:=HT;clear aL;have Hb:=H.full;have H:=Hb;clear hc;refine aD 1 H ?_;clear H;intro a H;refine aC ⟨rfl,?_⟩;exact dL (by kernel_rfl) (oI aJ bT) rfl rfl HT Hb hG hv (fun _ _ h=>h) (rfl) H
   ·intro aJ bT dH aS a w G1 dN _ _ _ _ aL hc hG HT hv;have H:=HT;clear aL;have Hb:=H.full;have H:=Hb;clear hc;refine aD 1 H ?_;clear H;intro a H;refine aC ⟨rfl,?_⟩;exact dL (by kernel_rfl) (oI aJ bT) rfl rfl HT Hb hG hv (fun _ _ h=>h) (rfl) H
   ·intro aJ bT dH aS a w G1 dN _ _ _ _ aL hc hG HT hv;have H:=HT;clear aL;have H:=H.aN (hv 0 21 (hc 0 (by decide)) rfl) rfl;have H:=H.aN (hv 1 22 (hc 1 (by decide)) rfl) rfl;have Hb:=H.full;have H:=Hb;clear hc;refine aD 1 H ?_;clear H;intro a H;refine aC ⟨rfl,?_⟩;exact dL (by kernel_rfl) (oI aJ bT) rfl rfl HT Hb hG hv (fun _ _ h=>h) (rfl) H
   ·intro aJ bT dH aS a w G1 dN _ _ _ _ aL hc hG HT hv;have H:=HT;clear aL;have H:=H.aN (hv 2 23 (hc 2 (by decide)) rfl) rfl;have Hb:=H.full;have H:=Hb;clear hc;refine aD 1 H ?_;clear H;intro a H;refine aC ⟨rfl,?_⟩;exact dL (by kernel_rfl) (oI aJ bT) rfl rfl HT Hb hG hv (fun _ _ h=>h) (rfl) H
   ·intro aJ bT dH aS a w G1 dN _ _ _ _ aL hc hG HT hv;have H:=HT;clear aL;have H:=H.aN (hv 3 24 (hc 3 (by decide)) rfl) rfl;have Hb:=H.full;have H:=Hb;clear hc;refine aR dw (cs:=[.slice pA pn pc,vi l[k].head.marks.ins,vi l[k].head.marks.move,.slice dA dn dc,.slice yA yn yc]) H wn rfl rfl (fun j v hj=>H.hp.aI (aH hG (BR j v hj))) rfl ?_;clear H;intro a H;refine aC ⟨rfl,?_⟩;exact dL (by kernel_rfl) (oI aJ bT) rfl rfl HT Hb hG hv (fun _ _ h=>h) (rfl) H
   ·intro aJ bT dH aS a w G1 dN _ _ _ _ aL hc hG HT hv;have H:=HT;clear aL;have Hb:=H.full;have H:=Hb;clear hc;refine aR wh (cs:=[.slice aA an ac,.slice rA rn rc]) H wn rfl rfl (fun j v hj=>H.hp.aI (aH hG (aH hgm (hga j v hj)))) rfl ?_;clear H;intro a H;refine aC ⟨rfl,?_⟩;exact dL (by kernel_rfl) (oI aJ bT) rfl rfl HT Hb hG hv (fun _ _ h=>h) (rfl) H
   ·intro _ _ _ _ _ _ _ _ _ hB;exact absurd hB (by decide)
   ·intro aJ bT dH aS a w G1 dN _ _ _ _ aL hc hG HT hv;have H:=HT;clear aL;obtain ⟨u27,amB,ZA⟩:=hv 6 27 (hc 6 (by decide)) rfl;(try dsimp only at ZA);obtain ⟨rfl,Hr⟩:=ZA;have H:=H.ig amB;have Hb:=H.full;have H:=Hb;clear hc;refine aD 1 H ?_;clear H;intro a H;refine aC ⟨rfl,?_⟩;exact dL (by kernel_rfl) (oI aJ bT) rfl rfl HT Hb hG hv (fun _ _ h=>h) (⟨rfl,Hr⟩) H
   ·intro aJ bT dH aS a w G1 dN _ _ _ _ aL hc hG HT hv;have H:=HT;clear aL;obtain ⟨u20,Tq,Ka⟩:=hv 7 20 (hc 7 (by decide)) rfl;(try dsimp only at Ka);obtain ⟨rfl,Hr⟩:=Ka;have H:=H.ig Tq;have Hb:=H.full;have H:=Hb;clear hc;refine jY H wn rfl rfl rfl ?_;clear H;intro a H;refine aC ⟨rfl,?_⟩;exact dL (by kernel_rfl) (oI aJ bT) rfl rfl HT Hb hG hv (fun _ _ h=>h) (⟨rfl,Hr⟩) H
   ·intro aJ bT dH aS a w G1 dN _ _ _ _ aL hc hG HT hv;have H:=HT;clear aL;obtain ⟨u20,Tq,Ka⟩:=hv 7 20 (hc 7 (by decide)) rfl;(try dsimp only at Ka);obtain ⟨rfl,Hr⟩:=Ka;have H:=H.ig Tq;have Hb:=H.full;have H:=Hb;clear hc;refine jY H wn rfl rfl rfl ?_;clear H;intro a H;refine aC ⟨rfl,?_⟩;exact dL (by kernel_rfl) (oI aJ bT) rfl rfl HT Hb hG hv (fun _ _ h=>h) (rfl) H
   ·intro _ _ _ _ _ _ _ _ _ _ hB;exact absurd hB (by decide)
   ·intro _ _ _ _ _ _ _ _ _ _ _ hB;exact absurd hB (by decide)
   intro _ _ _ _ _ _ _ _ hB;exact absurd hB (by decide)
  ·clear H;intro o_ aJ dH aS a w G1 dN jT _ hc hG HT hv;obtain rfl:_=o_:=Option.some.inj jT;clear jT;have H:=HT;have H:=H.aN (hv (((none,0,0),(none,0,0),(none,0,0))) 4 25 (by decide) (hc 4 (by decide)) rfl) rfl;have H:=H.aN (hv (((none,0,0),(none,0,0),(none,0,0))) 5 26 (by decide) (hc 5 (by decide)) rfl) rfl;have Hb:=H.full;have H:=Hb;clear hc;refine s_call Jo H wn rfl (KC _ _ H.ro A R aA rA an ac rn rc (hd.ha.mono fun b o h=>hG b o (rO b o h)) (hd.hr.mono fun b o h=>hG b o (rO b o h)) hd.la hd.lr l[k].head _ _ _ (hhd.mono hG) (by omega)) rfl ?_;clear H;rintro v27 PG a w hd27 Ev H;obtain ⟨q1,q2,q3,q4,q5,q6,q7,q8,q9,rfl,Hr⟩:=hd27.ans;refine aC ⟨rfl,((q1,q2,q3),(q4,q5,q6),(q7,q8,q9)),?_⟩;exact Bq (by kernel_rfl) (oI aJ (((q1,q2,q3),(q4,q5,q6),(q7,q8,q9)))) rfl HT Hb hG (fun j e h1 h2 h3=>hv _ j e h1 h2 h3) Ev (⟨rfl,Hr⟩) H
  ·clear H;intro o_ bT aS a w G1 jT _ hc hG HT hv;obtain rfl:_=o_:=Option.some.inj jT;clear jT;have H:=HT;have Hb:=H.full;have H:=Hb;clear hc;refine dz dw H wn rfl ?_;clear H;intro b7 a w vG H;refine aC ⟨rfl,b7,?_⟩;exact Eo (by kernel_rfl) rfl HT Hb hG (fun j e h1 h2 h3=>hv _ j e h1 h2 h3) (rfl) H
  ·clear H;intro o_ aJ bT aS a w G1 jT _ hc hG HT hv;obtain rfl:_=o_:=Option.some.inj jT;clear jT;have H:=HT;have H:=H.aN (hv 10 7 (hc 10 (by decide)) rfl) rfl;obtain ⟨u28,Tt,Ke⟩:=hv 8 28 (hc 8 (by decide)) rfl;(try dsimp only at Ke);obtain ⟨rfl,SN⟩:=Ke;have H:=H.ig Tt;have Hb:=H.full;have H:=Hb;clear hc;refine aX dw 0 (vs:=[_,_,_,_,_]) _ H wn rfl rfl rfl rfl rfl rfl rfl rfl ?_;clear H;intro w H;dsimp only [List.set,setRow] at H;refine aC ⟨rfl,?_⟩;exact QD rfl HT hG hv H
  clear H;intro b7 bT a w G kS H hv;have H:=H.aN (hv 10 7 rfl rfl) rfl;obtain ⟨u28,Tt,Ke⟩:=hv 8 28 (by decide) rfl;(try dsimp only at Ke);obtain ⟨rfl,SN⟩:=Ke;have H:=H.ig Tt;have H:=H.aN (hv 9 29 rfl rfl) rfl;clear hv;refine kH H (Ra rfl ?_);clear H;intro a H;obtain ⟨⟨q1,q2,q3⟩,⟨q4,q5,q6⟩,q7,q8,q9⟩:=bT;dsimp only [aM] at SN H;refine aC ⟨rfl,?_⟩;refine dQ ?_;refine RL 5 H ?_ ?_ <;> clear H
  ·intro h31
   try have p31:=dT h31
   have hone:rZ (lsB A) (lsB R) l[k]=[]:=by rw [hce,av (by simpa using h31)]
   have lg:=kS;refine ak 5 ?_;intro a H;refine aC ?_;refine cB ((k+1,v,xs,Lo,_)) (by exact (H.dY (Pl:=[_]) (dJ:=[]) [] (by decide) rfl).sub ⟨rfl,rfl,rfl,rfl,bq⟩) ?_ ?_
   ·(try dsimp only);exact ⟨by omega,by rw [xV hk2,hone,gu];exact hrw,by rw [xV hk2,hone,gu];exact dV.mono lg,fun b o h=>lg b o (hgm b o h)⟩
   first|omega|(dsimp only;omega)
  intro h31
  try have p31:=dF h31
  have tH:¬ kX (lsB A) (lsB R) l[k].head:=by simpa using h31
  rw [ah tH] at hce;obtain ⟨i1,hi1⟩:∃ x,x=(aW (lsB A) (lsB R) l[k].head).marks.ins:=⟨_,rfl⟩;obtain ⟨i2,Zb⟩:∃ x,x=(aW (lsB A) (lsB R) l[k].head).marks.move:=⟨_,rfl⟩;intro a H;rw [← hi1,← Zb] at H;refine fM 2 H ?_;clear H;intro a H;refine aR dw (cs:=[_,_,_,_,_]) H wn rfl rfl (H.hp.bO 0 rfl rfl) rfl ?_;clear H;intro a H;refine jh OY [_,_,_,_,_,_] H wn rfl rfl rfl rfl ?_;clear H;intro a H;refine dz jI H wn rfl ?_;clear H;intro b9 a w tC H;refine aX jI 0 (vs:=[_,_,_,_,_,_]) _ H wn rfl rfl rfl rfl rfl rfl rfl rfl ?_;clear H;intro w H;dsimp only [List.set,setRow] at H;refine aD 6 H ?_;clear H;intro a H;refine eH (ι:=Nat × aj × List aj × OL × GH) (Tc:=[(0,_),(3,_),(5,_),(6,_),(9,_)]) (Lc:=[(_,_)]) (fun gh=>[(10,vi gh.1)]) (fun gh=>[(b9,.cells #[.slice q1 q2 q3,vi i1,vi i2,.slice q4 q5 q6,.slice q7 q8 q9,gh.2.1] 74 (0,0))]++(Lo++gh.2.2.2.1)) (fun gh=>gh.2.2.2.2) (fun gh=>gh.1≤l[k].cells.length∧bV 76 7 gh.2.1 (gY (lsB A) (lsB R) (l[k].cells.take gh.1)).length gh.2.2.1 gh.2.2.2.1∧bU gh.2.2.2.2 7 ((gY (lsB A) (lsB R) (l[k].cells.take gh.1)).map bB.dat) gh.2.2.1∧(∀ b o,G b=some o→gh.2.2.2.2 b=some o)) (fun gh=>l[k].cells.length - gh.1) ((0,.slice none 0 0,[],[],G)) (by exact ((H.Ij (A:=[_,_])).dY (Pl:=[_,_]) (dJ:=[_,_]) [1,0] (by decide) rfl).sub ⟨rfl,rfl,rfl,rfl,rfl,rfl,bq⟩) ?_ ?_
  ·exact ⟨by omega,bV.nil,bU.nil,fun _ _ h=>h⟩
  clear H;rintro ⟨i,v2,xs2,Lc,g2⟩ a w hI H;dsimp only at hI H;obtain ⟨hi,hrw2,rM,iT⟩:=hI;have hrl2:=OD (acc:=lsB A) (rej:=lsB R) (l[k].cells.take i);rw [List.length_take] at hrl2;obtain ⟨wX,wY,rfl,-,-⟩:=hrw2.shape;have hgx:∀ b o,g b=some o→g2 b=some o:=fun b o h=>iT b o (kS b o h);have r5:=aH hgx (hrow 5 _ rfl);dsimp only [lca,bG] at H;refine dO 11 H ?_ ?_ <;> clear H
  ·intro p41
   have hi2:i < l[k].cells.length:=by omega
   obtain ⟨b2_,o2_,uA,un,uc,gA,gn,gc,zA,zn,zc,wA,FL,wc,rfl,hrow2,EH,EF⟩:=Jb hi2 hgc;replace hrow2:=fun j u hj=>aH hgx (hrow2 j u hj);replace EH:=EH.mono hgx;replace EF:=EF.mono hgx;have hzc:=LD hi2;have JQ:=UJ (acc:=lsB A) (rej:=lsB R) l[k].cells[i];refine ak 11 ?_;intro a H;refine aR jO (cs:=[_,_,_,_,_,_,_]) H wn rfl rfl (fun j v hj=>H.hp.aI (hrow2 j v hj)) rfl ?_;clear H;intro a H;refine dz jO H wn rfl ?_;clear H;intro b11 a w Ez H;refine aX jO 0 (vs:=[_,_,_,_,_,_,_]) _ H wn rfl rfl rfl rfl rfl rfl rfl rfl ?_;clear H;intro w H;dsimp only [List.set,setRow] at H;refine aD 3 H ?_;clear H;intro a H;refine aR dw (cs:=[_,_,_,_,_]) H wn rfl rfl (H.hp.bO 0 rfl rfl) rfl ?_;clear H;intro a H;refine aR wh (cs:=[.slice aA an ac,.slice rA rn rc]) H wn rfl rfl (fun j v hj=>H.hp.aI (aH hgx (aH hgm (hga j v hj)))) rfl ?_;clear H;intro a H;refine s_call Jo H wn rfl (KC _ _ H.ro A R aA rA an ac rn rc (hd.ha.mono fun b o h=>hgx b o (rO b o h)) (hd.hr.mono fun b o h=>hgx b o (rO b o h)) hd.la hd.lr l[k].cells[i].head _ _ _ EH (by omega)) rfl ?_;clear H;rintro v56 G56 a w ali EJ H;obtain ⟨r1,r2,r3,r4,tO,r6,r7,r8,r9,rfl,alB⟩:=ali.ans;refine aD 1 H ?_;clear H;intro a H;(iterate 2 refine jY H wn rfl rfl rfl ?_;clear H;intro a H);refine dz dw H wn rfl ?_;clear H;intro b12 a w EA H;refine aX dw 0 (vs:=[_,_,_,_,_]) _ H wn rfl rfl rfl rfl rfl rfl rfl rfl ?_;clear H;intro w H;dsimp only [List.set,setRow] at H;refine iR 5 H ?_ ?_ <;> clear H
   ·intro JA
    try have p59:=dT JA
    have J6:¬ kX (lsB A) (lsB R) l[k].cells[i].head:=by simpa using JA
    have zo:uP (lsB A) (lsB R) l[k].cells[i]=[.mk l[k].cells[i].id (aW (lsB A) (lsB R) l[k].cells[i].head) (fC (lsB A) (lsB R) l[k].cells[i].flow)]:=by rw [JQ,ah J6,aW,ah J6]
    have zu:∀ (aJ:Nat→aj × OL) (aQ:Nat) (v:aj) (G G':GH),(∀ k o,G k=some o→G' k=some o)→(fun (aJ:Nat→aj × OL) (aQ:Nat) (v:aj) (G:GH)=>match aQ with|0=>v=(aG b9 (0+5))|1=>v=.slice wX (gY (lsB A) (lsB R) (l[k].cells.take i)).length wY|2=>v=(aG b11 0)|3=>v=vi l[k].cells[i].id|4=>v=.agg #[.slice r1 r2 r3,vi (aW (lsB A) (lsB R) l[k].cells[i].head).marks.ins,vi (aW (lsB A) (lsB R) l[k].cells[i].head).marks.move,.slice r4 tO r6,.slice r7 r8 r9]|5=>v=(aG b11 6)|6=>v=.slice wA FL wc|7=>v=.agg #[.slice aA an ac,.slice rA rn rc]|8=>au G (.sl 11 ((fC (lsB A) (lsB R) l[k].cells[i].flow).map ay.dat)) v|9=>∃ A' n c,v=.agg #[vi l[k].cells[i].id,.slice r1 r2 r3,vi (aW (lsB A) (lsB R) l[k].cells[i].head).marks.ins,vi (aW (lsB A) (lsB R) l[k].cells[i].head).marks.move,.slice r4 tO r6,.slice r7 r8 r9,.slice A' n c]∧au G (.sl 11 ((fC (lsB A) (lsB R) l[k].cells[i].flow).map ay.dat)) (.slice A' n c)|10=>∃ b A' n c,v=.slice (some ⟨b,0,none⟩) 1 1∧aJ 10=(.slice (some ⟨b,0,none⟩) 1 1,[(b,.cells #[vi l[k].cells[i].id,.slice r1 r2 r3,vi (aW (lsB A) (lsB R) l[k].cells[i].head).marks.ins,vi (aW (lsB A) (lsB R) l[k].cells[i].head).marks.move,.slice r4 tO r6,.slice r7 r8 r9,.slice A' n c] 76 (0,0))])∧au G (.sl 11 ((fC (lsB A) (lsB R) l[k].cells[i].flow).map ay.dat)) (.slice A' n c)|_=>True) aJ aQ v G→(fun (aJ:Nat→aj × OL) (aQ:Nat) (v:aj) (G:GH)=>match aQ with|0=>v=(aG b9 (0+5))|1=>v=.slice wX (gY (lsB A) (lsB R) (l[k].cells.take i)).length wY|2=>v=(aG b11 0)|3=>v=vi l[k].cells[i].id|4=>v=.agg #[.slice r1 r2 r3,vi (aW (lsB A) (lsB R) l[k].cells[i].head).marks.ins,vi (aW (lsB A) (lsB R) l[k].cells[i].head).marks.move,.slice r4 tO r6,.slice r7 r8 r9]|5=>v=(aG b11 6)|6=>v=.slice wA FL wc|7=>v=.agg #[.slice aA an ac,.slice rA rn rc]|8=>au G (.sl 11 ((fC (lsB A) (lsB R) l[k].cells[i].flow).map ay.dat)) v|9=>∃ A' n c,v=.agg #[vi l[k].cells[i].id,.slice r1 r2 r3,vi (aW (lsB A) (lsB R) l[k].cells[i].head).marks.ins,vi (aW (lsB A) (lsB R) l[k].cells[i].head).marks.move,.slice r4 tO r6,.slice r7 r8 r9,.slice A' n c]∧au G (.sl 11 ((fC (lsB A) (lsB R) l[k].cells[i].flow).map ay.dat)) (.slice A' n c)|10=>∃ b A' n c,v=.slice (some ⟨b,0,none⟩) 1 1∧aJ 10=(.slice (some ⟨b,0,none⟩) 1 1,[(b,.cells #[vi l[k].cells[i].id,.slice r1 r2 r3,vi (aW (lsB A) (lsB R) l[k].cells[i].head).marks.ins,vi (aW (lsB A) (lsB R) l[k].cells[i].head).marks.move,.slice r4 tO r6,.slice r7 r8 r9,.slice A' n c] 76 (0,0))])∧au G (.sl 11 ((fC (lsB A) (lsB R) l[k].cells[i].flow).map ay.dat)) (.slice A' n c)|_=>True) aJ aQ v G':=by
     intro aJ aQ v G G' hm h
     match aQ,h with
     | 0,h=>exact h
     | 1,h=>exact h
     | 2,h=>exact h
     | 3,h=>exact h
     | 4,h=>exact h
     | 5,h=>exact h
     | 6,h=>exact h
     | 7,h=>exact h
     | 8,h=>exact au.mono hm h
     | 9,h=>exact let ⟨A,n,c,h1,h2⟩:=h;⟨A,n,c,h1,h2.mono hm⟩
     | 10,h=>exact let ⟨b,A,n,c,h0,h1,h2⟩:=h;⟨b,A,n,c,h0,h1,h2.mono hm⟩
     | 11,h=>exact trivial
     | 12,h=>exact trivial
     | 13,h=>exact trivial
     | _+14,h=>exact trivial
    intro a H;refine Mx [10] (hmx) [[],[0],[],[2],[],[],[5],[],[5,6,7],(ra 2 7),(ra 2 8),(ra 0 11),(ra 0 12),(ra 0 13)] [11,12,13] (by kernel_rfl) (by kernel_rfl) (by decide) (by kernel_rfl) (fun (aJ:Nat→aj × OL) (aQ:Nat) (v:aj) (G:GH)=>match aQ with|0=>v=(aG b9 (0+5))|1=>v=.slice wX (gY (lsB A) (lsB R) (l[k].cells.take i)).length wY|2=>v=(aG b11 0)|3=>v=vi l[k].cells[i].id|4=>v=.agg #[.slice r1 r2 r3,vi (aW (lsB A) (lsB R) l[k].cells[i].head).marks.ins,vi (aW (lsB A) (lsB R) l[k].cells[i].head).marks.move,.slice r4 tO r6,.slice r7 r8 r9]|5=>v=(aG b11 6)|6=>v=.slice wA FL wc|7=>v=.agg #[.slice aA an ac,.slice rA rn rc]|8=>au G (.sl 11 ((fC (lsB A) (lsB R) l[k].cells[i].flow).map ay.dat)) v|9=>∃ A' n c,v=.agg #[vi l[k].cells[i].id,.slice r1 r2 r3,vi (aW (lsB A) (lsB R) l[k].cells[i].head).marks.ins,vi (aW (lsB A) (lsB R) l[k].cells[i].head).marks.move,.slice r4 tO r6,.slice r7 r8 r9,.slice A' n c]∧au G (.sl 11 ((fC (lsB A) (lsB R) l[k].cells[i].flow).map ay.dat)) (.slice A' n c)|10=>∃ b A' n c,v=.slice (some ⟨b,0,none⟩) 1 1∧aJ 10=(.slice (some ⟨b,0,none⟩) 1 1,[(b,.cells #[vi l[k].cells[i].id,.slice r1 r2 r3,vi (aW (lsB A) (lsB R) l[k].cells[i].head).marks.ins,vi (aW (lsB A) (lsB R) l[k].cells[i].head).marks.move,.slice r4 tO r6,.slice r7 r8 r9,.slice A' n c] 76 (0,0))])∧au G (.sl 11 ((fC (lsB A) (lsB R) l[k].cells[i].flow).map ay.dat)) (.slice A' n c)|_=>True) (fun m hm x y i v G hi hc h=>by
     have hm:m=10:=by simpa using hm
     rcases hm with rfl
     ·match i,hi,hc,h with
      | 0,_,_,h=>exact h
      | 1,_,_,h=>exact h
      | 2,_,_,h=>exact h
      | 3,_,_,h=>exact h
      | 4,_,_,h=>exact h
      | 5,_,_,h=>exact h
      | 6,_,_,h=>exact h
      | 7,_,_,h=>exact h
      | 8,_,_,h=>exact h
      | 9,_,_,h=>exact h
      | 10,hi,_,_=>exact absurd hi (by decide)
      | 11,_,hc,_=>exact absurd hc (by decide)
      | 12,_,hc,_=>exact absurd hc (by decide)
      | 13,_,hc,_=>exact absurd hc (by decide)
      | _+14,_,_,_=>exact trivial
     ) H ?_ ?_ ?_
    ·clear H;refine aF ?_ ?_ ?_ ?_ (aF ?_ ?_ ?_ ?_ (aF ?_ ?_ ?_ ?_ (bH ?_ (bH ?_ cO))))
     ·intro aJ dH aS a w G1 dN _ _ aL hc hG HT hv;have H:=HT;clear aL;have Hb:=H.full;have H:=Hb;clear hc;refine aD 1 H ?_;clear H;intro a H;refine aC ⟨rfl,?_⟩;exact dL (by kernel_rfl) (zu aJ) rfl rfl HT Hb hG hv (fun _ _ h=>h) (rfl) H
     ·intro aJ dH aS a w G1 dN _ _ aL hc hG HT hv;have H:=HT;clear aL;have H:=H.aN (hv 0 60 (hc 0 (by decide)) rfl) rfl;have Hb:=H.full;have H:=Hb;clear hc;refine iC IB H wn rfl (H.hp.wQ (dN _ (gB _ (gB _ (gB _ fK)))) rfl) rfl ?_;clear H;intro a H;refine aC ⟨rfl,?_⟩;exact dL (by kernel_rfl) (zu aJ) rfl rfl HT Hb hG hv (fun _ _ h=>h) (rfl) H
     ·intro aJ dH aS a w G1 dN _ _ aL hc hG HT hv;have H:=HT;clear aL;have Hb:=H.full;have H:=Hb;clear hc;refine aD 1 H ?_;clear H;intro a H;refine aC ⟨rfl,?_⟩;exact dL (by kernel_rfl) (zu aJ) rfl rfl HT Hb hG hv (fun _ _ h=>h) (rfl) H
     ·intro aJ dH aS a w G1 dN _ _ aL hc hG HT hv;have H:=HT;clear aL;have H:=H.aN (hv 2 62 (hc 2 (by decide)) rfl) rfl;have Hb:=H.full;have H:=Hb;clear hc;refine iC bR H wn rfl (H.hp.wQ (dN _ (gB _ fK)) rfl) rfl ?_;clear H;intro a H;refine aC ⟨rfl,?_⟩;exact dL (by kernel_rfl) (zu aJ) rfl rfl HT Hb hG hv (fun _ _ h=>h) (rfl) H
     ·intro aJ dH aS a w G1 dN _ _ aL hc hG HT hv;have H:=HT;clear aL;have Hb:=H.full;have H:=Hb;clear hc;refine aR dw (cs:=[.slice r1 r2 r3,vi (aW (lsB A) (lsB R) l[k].cells[i].head).marks.ins,vi (aW (lsB A) (lsB R) l[k].cells[i].head).marks.move,.slice r4 tO r6,.slice r7 r8 r9]) H wn rfl rfl (fun j v hj=>H.hp.wQ (dN _ fK) (by simpa using hj)) rfl ?_;clear H;intro a H;refine aC ⟨rfl,?_⟩;exact dL (by kernel_rfl) (zu aJ) rfl rfl HT Hb hG hv (fun _ _ h=>h) (rfl) H
     ·intro aJ dH aS a w G1 dN _ _ aL hc hG HT hv;have H:=HT;clear aL;have Hb:=H.full;have H:=Hb;clear hc;refine aD 1 H ?_;clear H;intro a H;refine aC ⟨rfl,?_⟩;exact dL (by kernel_rfl) (zu aJ) rfl rfl HT Hb hG hv (fun _ _ h=>h) (rfl) H
     ·intro aJ dH aS a w G1 dN _ _ aL hc hG HT hv;have H:=HT;clear aL;have H:=H.aN (hv 5 65 (hc 5 (by decide)) rfl) rfl;have Hb:=H.full;have H:=Hb;clear hc;refine iC pG H wn rfl (H.hp.wQ (dN _ (gB _ fK)) rfl) rfl ?_;clear H;intro a H;refine aC ⟨rfl,?_⟩;exact dL (by kernel_rfl) (zu aJ) rfl rfl HT Hb hG hv (fun _ _ h=>h) (rfl) H
     ·intro aJ dH aS a w G1 dN _ _ aL hc hG HT hv;have H:=HT;clear aL;have Hb:=H.full;have H:=Hb;clear hc;refine aR wh (cs:=[.slice aA an ac,.slice rA rn rc]) H wn rfl rfl (fun j v hj=>H.hp.aI (aH hG (aH EJ (aH hgx (aH hgm (hga j v hj)))))) rfl ?_;clear H;intro a H;refine aC ⟨rfl,?_⟩;exact dL (by kernel_rfl) (zu aJ) rfl rfl HT Hb hG hv (fun _ _ h=>h) (rfl) H
     ·intro aJ dH aS a w G1 dN _ _ aL hc hG HT hv;have H:=HT;clear aL;have H:=H.aN (hv 6 66 (hc 6 (by decide)) rfl) rfl;have H:=H.aN (hv 7 67 (hc 7 (by decide)) rfl) rfl;have Hb:=H.full;have H:=Hb;clear hc;refine s_call QY H wn rfl (ih _ _ H.ro (hd.mono fun b o h=>hG b o (EJ b o (hgx b o (rO b o h)))) l[k].cells[i].flow _ (EF.mono fun b o h=>hG b o (EJ b o h)) (by omega)) rfl ?_;clear H;rintro v68 G68 a w Kh ako H;refine aC ⟨rfl,?_⟩;exact dL (by kernel_rfl) (zu aJ) rfl rfl HT Hb hG hv ako (Kh) H
     ·intro aJ dH aS a w G1 dN _ _ aL hc hG HT hv;have H:=HT;clear aL;have H:=H.aN (hv 3 63 (hc 3 (by decide)) rfl) rfl;have H:=H.aN (hv 4 64 (hc 4 (by decide)) rfl) rfl;obtain ⟨u68,amJ,Kh⟩:=hv 8 68 (hc 8 (by decide)) rfl;(try dsimp only at Kh);obtain ⟨yC,n52,yI,rfl⟩:=Kh.form;have H:=H.ig amJ;have Hb:=H.full;have H:=Hb;clear hc;refine jh OZ [_,_,_,_,_,_,_] H wn rfl rfl rfl rfl ?_;clear H;intro a H;refine aC ⟨rfl,?_⟩;exact dL (by kernel_rfl) (zu aJ) rfl rfl HT Hb hG hv (fun _ _ h=>h) (⟨_,_,_,rfl,Kh⟩) H
     ·intro _ _ _ _ _ _ _ _ hB;exact absurd hB (by decide)
     ·intro _ _ _ _ _ _ _ hB;exact absurd hB (by decide)
     ·intro _ _ _ _ _ _ _ hB;exact absurd hB (by decide)
     intro _ _ _ _ _ _ _ hB;exact absurd hB (by decide)
    ·clear H;refine aF ?_ ?_ ?_ ?_ (aF ?_ ?_ ?_ ?_ (aF ?_ ?_ ?_ ?_ (bH ?_ (bH ?_ cO))))
     ·intro hB;exact absurd hB (by decide)
     ·intro hB;exact absurd hB (by decide)
     ·intro hB;exact absurd hB (by decide)
     ·intro hB;exact absurd hB (by decide)
     ·intro hB;exact absurd hB (by decide)
     ·intro hB;exact absurd hB (by decide)
     ·intro hB;exact absurd hB (by decide)
     ·intro hB;exact absurd hB (by decide)
     ·intro hB;exact absurd hB (by decide)
     ·intro hB;exact absurd hB (by decide)
     ·intro _ aJ dH aS a w G1 dN _ hc hG HT hv;have H:=HT;obtain ⟨u69,amK,NP⟩:=hv (.bool false,[]) 9 69 (by decide) (hc 9 (by decide)) rfl;(try dsimp only at NP);obtain ⟨sI,n53,c53,rfl,NP⟩:=NP;have H:=H.ig amK;have Hb:=H.full;have H:=Hb;clear hc;refine gG Cw jO [_,_,_,_,_,_,_] [_,_,_,_,_,_,_] H wn rfl rfl rfl rfl rfl (by intro i q h;match i,h with|0,h=>exact h|n+1,h=>simp at h) rfl rfl ?_;clear H;intro CQ a w atg H;refine aC ⟨rfl,(.slice (some ⟨CQ,0,none⟩) 1 1,[(CQ,.cells #[vi l[k].cells[i].id,.slice r1 r2 r3,vi (aW (lsB A) (lsB R) l[k].cells[i].head).marks.ins,vi (aW (lsB A) (lsB R) l[k].cells[i].head).marks.move,.slice r4 tO r6,.slice r7 r8 r9,.slice sI n53 c53] 76 (0,0))]),?_⟩;exact Bq (by kernel_rfl) (zu (uV aJ 10 (.slice (some ⟨CQ,0,none⟩) 1 1,[(CQ,.cells #[vi l[k].cells[i].id,.slice r1 r2 r3,vi (aW (lsB A) (lsB R) l[k].cells[i].head).marks.ins,vi (aW (lsB A) (lsB R) l[k].cells[i].head).marks.move,.slice r4 tO r6,.slice r7 r8 r9,.slice sI n53 c53] 76 (0,0))]))) rfl HT Hb hG (fun j e h1 h2 h3=>hv (.slice (some ⟨CQ,0,none⟩) 1 1,[(CQ,.cells #[vi l[k].cells[i].id,.slice r1 r2 r3,vi (aW (lsB A) (lsB R) l[k].cells[i].head).marks.ins,vi (aW (lsB A) (lsB R) l[k].cells[i].head).marks.move,.slice r4 tO r6,.slice r7 r8 r9,.slice sI n53 c53] 76 (0,0))]) j e h1 h2 h3) (fun _ _ h=>h) (⟨CQ,sI,n53,c53,rfl,rfl,NP⟩) H
     ·intro hB;exact absurd hB (by decide)
     ·intro hB;exact absurd hB (by decide)
     intro hB;exact absurd hB (by decide)
    clear H;intro aJ a w G wI H hv
    simp only [oF,List.flatMap_cons,List.flatMap_nil,cond_true,gu,iZ] at H
    have H:=H.aN (hv 1 61 rfl rfl) rfl;obtain ⟨u70,amL,ZG⟩:=hv 10 70 (by decide) rfl;(try dsimp only at ZG);obtain ⟨CQ,yC,n52,yI,rfl,e70,BN⟩:=ZG;have H:=H.ig amL;clear hv;rw [e70] at H;dsimp only [lca,bG] at H;have ZN:aU G (bB.dat (.mk l[k].cells[i].id (aW (lsB A) (lsB R) l[k].cells[i].head) (fC (lsB A) (lsB R) l[k].cells[i].flow))) [vi l[k].cells[i].id,.slice r1 r2 r3,vi (aW (lsB A) (lsB R) l[k].cells[i].head).marks.ins,vi (aW (lsB A) (lsB R) l[k].cells[i].head).marks.move,.slice r4 tO r6,.slice r7 r8 r9,.slice yC n52 yI]:=aU.KD (x:=.mk l[k].cells[i].id (aW (lsB A) (lsB R) l[k].cells[i].head) (fC (lsB A) (lsB R) l[k].cells[i].flow)) (alB.mono wI) BN;refine lJ (Li:=[_,_,_,_,_]++Lo) (Lo:=Lc) (news:=[vi l[k].cells[i].id,.slice r1 r2 r3,vi (aW (lsB A) (lsB R) l[k].cells[i].head).marks.ins,vi (aW (lsB A) (lsB R) l[k].cells[i].head).marks.move,.slice r4 tO r6,.slice r7 r8 r9,.slice yC n52 yI]) Cw jO rfl rfl (St.un (A:=[_,_,_,_,_]) H) wn rfl rfl hrw2 rfl (H.hp.bO 0 rfl rfl) ZN.one (by omega) (by omega) rfl ?_;clear H;intro v71 adl a w ZV H;obtain ⟨auc,aud,rfl,-,-⟩:=ZV.shape;have H:=H.assoc;dsimp only [lca,bG] at H;refine kH H (Rf Ju rfl ?_);clear H;intro a H;refine aX IB 4 (vs:=[_]) _ H wn rfl rfl rfl rfl rfl rfl rfl rfl ?_;clear H;intro w H;dsimp only [List.set,setRow] at H;refine aC ⟨rfl,?_⟩;refine dQ ?_;refine fM 4 H ?_;clear H;intro a H;refine aC ?_;refine cB ((i+1,_,xs2++[vi l[k].cells[i].id,.slice r1 r2 r3,vi (aW (lsB A) (lsB R) l[k].cells[i].head).marks.ins,vi (aW (lsB A) (lsB R) l[k].cells[i].head).marks.move,.slice r4 tO r6,.slice r7 r8 r9,.slice yC n52 yI],adl,_)) (by exact (H.dY (Pl:=[_,_,_,_,_]) (dJ:=[_,_]) [3,4] (by decide) rfl).sub ⟨rfl,rfl,rfl,rfl,rfl,rfl,bq⟩) ?_ ?_
    ·(try dsimp only);exact ⟨by omega,by rw [DC hi2,zo,iA];exact ZV,by rw [DC hi2,zo,kM];exact (rM.mono fun b o h=>wI b o (EJ b o h)).snoc ZN rfl,fun b o h=>wI b o (EJ b o (iT b o h))⟩
    first|omega|(dsimp only;omega)
   intro JA
   try have p59:=dF JA
   have zo:uP (lsB A) (lsB R) l[k].cells[i]=[]:=by rw [JQ,av (by simpa using JA)]
   refine ak 5 ?_;intro a H;refine aC ?_;refine cB ((i+1,_,xs2,Lc,_)) (by exact (H.dY (Pl:=[_,_,_,_]) (dJ:=[_,_]) [2,3] (by decide) rfl).sub ⟨rfl,rfl,rfl,rfl,rfl,rfl,bq⟩) ?_ ?_
   ·(try dsimp only);exact ⟨by omega,by rw [DC hi2,zo,gu];exact hrw2,by rw [DC hi2,zo,gu];exact rM.mono EJ,fun b o h=>EJ b o (iT b o h)⟩
   first|omega|(dsimp only;omega)
  intro p41
  obtain rfl:i=l[k].cells.length:=by omega
  subst hi1 Zb;intro a H;rw [uZ] at hrw2 rM hrl2 H;have H:=H.un (A:=[_,_]);obtain ⟨Gr,hmr,hrep,H⟩:=St.mR (Li:=[_,_]++Lo) H hrw2 (rows:=(gY (lsB A) (lsB R) l[k].cells).map bB.dat) (by simp) rM;have lg:∀ b o,g b=some o→Gr b=some o:=fun b o h=>hmr b o (hgx b o h);dsimp only [lca,bG] at H;refine dO 7 H ?_ ?_ <;> clear H
  ·intro KG
   have hone:rZ (lsB A) (lsB R) l[k]=[.mk (aW (lsB A) (lsB R) l[k].head) (gY (lsB A) (lsB R) l[k].cells)]:=by rw [hce,ah (by omega),aW,ah tH]
   have ZO:aU Gr (aV.dat (.mk (aW (lsB A) (lsB R) l[k].head) (gY (lsB A) (lsB R) l[k].cells))) [.slice q1 q2 q3,vi (aW (lsB A) (lsB R) l[k].head).marks.ins,vi (aW (lsB A) (lsB R) l[k].head).marks.move,.slice q4 q5 q6,.slice q7 q8 q9,.slice wX (gY (lsB A) (lsB R) l[k].cells).length wY]:=aU.KE (x:=.mk (aW (lsB A) (lsB R) l[k].head) (gY (lsB A) (lsB R) l[k].cells)) (SN.mono fun b o h=>hmr b o (iT b o h)) hrep;refine ak 2 ?_;intro a H;refine aR jI (cs:=[_,_,_,_,_,_]) H wn rfl rfl (H.hp.bO 1 rfl rfl) rfl ?_;clear H;intro a H;refine gG FJ jI [_,_,_,_,_,_] [_,_,_,_,_,_] H wn rfl rfl rfl rfl rfl (by intro i q h;match i,h with|0,h=>exact h|n+1,h=>simp at h) rfl rfl ?_;clear H;intro b79 a w ath H;refine lJ (Li:=[_,_,_]) (Lo:=Lo) (news:=[.slice q1 q2 q3,vi (aW (lsB A) (lsB R) l[k].head).marks.ins,vi (aW (lsB A) (lsB R) l[k].head).marks.move,.slice q4 q5 q6,.slice q7 q8 q9,.slice wX (gY (lsB A) (lsB R) l[k].cells).length wY]) FJ jI rfl rfl H wn rfl rfl hrw rfl (H.hp.bO 0 rfl rfl) ZO.one (by omega) (by omega) rfl ?_;clear H;intro v80 adt a w amm H;refine aD 6 H ?_;clear H;intro a H;refine aC ?_;refine cB ((k+1,v80,xs++[.slice q1 q2 q3,vi (aW (lsB A) (lsB R) l[k].head).marks.ins,vi (aW (lsB A) (lsB R) l[k].head).marks.move,.slice q4 q5 q6,.slice q7 q8 q9,.slice wX (gY (lsB A) (lsB R) l[k].cells).length wY],adt,_)) (by exact (H.dY (Pl:=[_,_,_]) (dJ:=[]) [] (by decide) rfl).sub ⟨rfl,rfl,rfl,rfl,bq⟩) ?_ ?_
   ·(try dsimp only);exact ⟨by omega,by rw [xV hk2,hone,iA];exact amm,by rw [xV hk2,hone,kM];exact (dV.mono lg).snoc ZO rfl,fun b o h=>lg b o (hgm b o h)⟩
   first|omega|(dsimp only;omega)
  intro KG
  have hone:rZ (lsB A) (lsB R) l[k]=[]:=by rw [hce,av (by omega)]
  refine ak 5 ?_;intro a H;refine aC ?_;refine cB ((k+1,v,xs,Lo,_)) (by exact (H.dY (Pl:=[_,_]) (dJ:=[]) [] (by decide) rfl).sub ⟨rfl,rfl,rfl,rfl,bq⟩) ?_ ?_
  ·(try dsimp only);exact ⟨by omega,by rw [xV hk2,hone,gu];exact hrw,by rw [xV hk2,hone,gu];exact dV.mono lg,fun b o h=>lg b o (hgm b o h)⟩
  first|omega|(dsimp only;omega)
 intro jH
 obtain rfl:k=l.length:=by omega
 rw [uZ] at hrw dV;refine ak 5 ?_;intro a H;refine cu ?_;obtain ⟨G',hm,rQ,H⟩:=H.mR (Li:=[]) hrw (rows:=(jC (lsB A) (lsB R) l).map aV.dat) (by simp) dV;refine lv H results117 rfl ?_;exact H.rt rQ
theorem anL {n:Nat} (ih:Me A R (.slice aA an ac) (.slice rA rn rc) n) (hn:n≤536870912):Me A R (.slice aA an ac) (.slice rA rn rc) (n+1):=by
 intro G w0 hG hd l v hv hz;obtain ⟨LA,Ma,rfl,hc1,hc2,hg⟩:=hv.slice
 have hml:4294967297≤maxLen:=by decide
 have hll:=FM l;rw [bM] at *;refine eN [(0,_),(1,_)] func64 rfl ntmps64 rfl rfl hG ?_;refine ak 1 ?_;intro a H;refine dP (cs:=[_,_]) H wn rfl rfl rfl ?_;clear H;intro b3 a w hb3 H;refine aD 2 H ?_;clear H;intro a H;obtain ⟨Ga,hma,hb',H⟩:=H.eu;have hga:=fun j v hj=>kW hb' 0 [.slice aA an ac,.slice rA rn rc] rfl j v hj;refine fM 8 H ?_;clear H;intro a H;refine eH (ι:=Nat × aj × List aj × OL × GH) (Tc:=[(0,_),(3,_)]) (Lc:=[]) (fun gh=>[(5,gh.2.1),(6,vi gh.1)]) (fun gh=>[]++gh.2.2.2.1) (fun gh=>gh.2.2.2.2) (fun gh=>gh.1≤l.length∧bV 68 11 gh.2.1 (fC (lsB A) (lsB R) (l.take gh.1)).length gh.2.2.1 gh.2.2.2.1∧bU gh.2.2.2.2 11 ((fC (lsB A) (lsB R) (l.take gh.1)).map ay.dat) gh.2.2.1∧(∀ b o,Ga b=some o→gh.2.2.2.2 b=some o)) (fun gh=>l.length - gh.1) ((0,.slice none 0 0,[],[],Ga)) sB ?_ ?_
 ·exact ⟨by omega,bV.nil,bU.nil,fun _ _ h=>h⟩
 clear H;rintro ⟨k,v,xs,Lo,g⟩ a w hI H;dsimp only at hI H;obtain ⟨hk,hrw,dV,hgm⟩:=hI;have hrl:=UL (acc:=lsB A) (rej:=lsB R) (l.take k);rw [List.length_take] at hrl;have rO:∀ b o,G b=some o→g b=some o:=fun b o h=>hgm b o (hma b o h);dsimp only [lca,bG] at H;refine dO 7 H ?_ ?_ <;> clear H
 ·intro oJ
  have hk2:k < l.length:=by omega
  obtain ⟨b_,o_,pA,pn,pc,dA,dn,dc,yA,yn,yc,fA,fn,fc,sA,sn,sc,rfl,hrow,hhd,hfl,hrs⟩:=Es hk2 hg;replace hrow:=fun j u hj=>aH rO (hrow j u hj);replace hhd:=hhd.mono rO;replace hfl:=hfl.mono rO;replace hrs:=hrs.mono rO;have hzi:=IL hk2;have hce:=UK (acc:=lsB A) (rej:=lsB R) l[k];refine ak 7 ?_;intro a H;refine aR fZ (cs:=[_,_,_,_,_,_,_,_,_,_,_]) H wn rfl rfl (fun j v hj=>H.hp.aI (hrow j v hj)) rfl ?_;clear H;intro a H;refine dz fZ H wn rfl ?_;clear H;intro b7 a w vG H;refine aX fZ 0 (vs:=[_,_,_,_,_,_,_,_,_,_,_]) _ H wn rfl rfl rfl rfl rfl rfl rfl rfl ?_;clear H;intro w H;dsimp only [List.set,setRow] at H;refine aD 3 H ?_;clear H;intro a H;refine aR dw (cs:=[_,_,_,_,_]) H wn rfl rfl (H.hp.bO 0 rfl rfl) rfl ?_;clear H;intro a H;refine aR wh (cs:=[.slice aA an ac,.slice rA rn rc]) H wn rfl rfl (fun j v hj=>H.hp.aI (aH hgm (hga j v hj))) rfl ?_;clear H;intro a H;refine s_call Jo H wn rfl (KC _ _ H.ro A R aA rA an ac rn rc (hd.ha.mono rO) (hd.hr.mono rO) hd.la hd.lr l[k].head _ _ _ hhd (by omega)) rfl ?_;clear H;rintro v24 xq a w hd24 kK H;obtain ⟨q1,q2,q3,q4,q5,q6,q7,q8,q9,rfl,SL⟩:=hd24.ans;refine aD 1 H ?_;clear H;intro a H;(iterate 2 refine jY H wn rfl rfl rfl ?_;clear H;intro a H);refine dz dw H wn rfl ?_;clear H;intro b8 a w Al H;refine aX dw 0 (vs:=[_,_,_,_,_]) _ H wn rfl rfl rfl rfl rfl rfl rfl rfl ?_;clear H;intro w H;dsimp only [List.set,setRow] at H;refine iR 7 H ?_ ?_ <;> clear H
  ·intro vC
   try have p28:=dT vC
   have hone:qV (lsB A) (lsB R) l[k]=[]:=by rw [hce,av (by simpa using vC)]
   refine ak 5 ?_;intro a H;refine aC ?_;refine cB ((k+1,v,xs,Lo,_)) (by exact (H.dY (Pl:=[_,_]) (dJ:=[]) [] (by decide) rfl).sub ⟨rfl,rfl,rfl,rfl,bq⟩) ?_ ?_
   ·(try dsimp only);exact ⟨by omega,by rw [vX hk2,hone,gu];exact hrw,by rw [vX hk2,hone,gu];exact dV.mono kK,fun b o h=>kK b o (hgm b o h)⟩
   first|omega|(dsimp only;omega)
  intro vC
  try have p28:=dF vC
  have tH:¬ kX (lsB A) (lsB R) l[k].head:=by simpa using vC
  rw [ah tH] at hce;have han:aW (lsB A) (lsB R) l[k].head=lF (lsB A) (lsB R) l[k].head:=ah tH;refine ak 2 ?_;intro a H;refine aR dw (cs:=[_,_,_,_,_]) H wn rfl rfl (H.hp.bO 0 rfl rfl) rfl ?_;clear H;refine ak 1 ?_;intro a H;refine aX dw 1 (vs:=[_,_,_,_,_]) _ H wn rfl rfl rfl rfl rfl rfl rfl rfl ?_;clear H;intro w H;dsimp only [List.set,setRow] at H;refine gF 7 H ?_ ?_ <;> clear H
  ·intro p33
   refine ak 3 ?_;intro a H;refine aR wh (cs:=[.slice aA an ac,.slice rA rn rc]) H wn rfl rfl (fun j v hj=>H.hp.aI (aH kK (aH hgm (hga j v hj)))) rfl ?_;clear H;intro a H;refine s_call QY H wn rfl (ih _ _ H.ro (hd.mono fun b o h=>kK b o (rO b o h)) l[k].flow _ (hfl.mono kK) (by omega)) rfl ?_;clear H;rintro v37 IV a w ZB BK H;obtain ⟨A37,n37,c37,rfl⟩:=ZB.form;refine aD 1 H ?_;clear H;intro a H;refine aX pG 1 (vs:=[_]) _ H wn rfl rfl rfl rfl rfl rfl rfl rfl ?_;clear H;intro w H;dsimp only [List.set,setRow] at H;refine aC ?_;refine dQ ?_;refine qz (ι:=ay × List aj × GH) (Tc:=[(0,_),(3,_),(5,_),(6,_),(7,_)]) (Lc:=[(_,_)]) (fun gh=>[]) (fun gh=>[(b7,.cells gh.2.1.toArray 68 (0,0))]++Lo) (fun gh=>gh.2.2) (fun gh=>qV (lsB A) (lsB R) l[k]=[gh.1]∧aU gh.2.2 gh.1.dat gh.2.1∧(∀ b o,xq b=some o→gh.2.2 b=some o)) sB ?_ ?_
   ·refine dO 5 H ?_ ?_ <;> clear H
    ·intro p41
     intro a H;omega
    intro p41
    intro a H;refine jL ?_;refine ⟨(.mk l[k].kind l[k].code l[k].id l[k].text (aW (lsB A) (lsB R) l[k].head) (fC (lsB A) (lsB R) l[k].flow) l[k].rows,[vi l[k].kind,vi l[k].code,vi l[k].id,.string l[k].text,.slice q1 q2 q3,vi (aW (lsB A) (lsB R) l[k].head).marks.ins,vi (aW (lsB A) (lsB R) l[k].head).marks.move,.slice q4 q5 q6,.slice q7 q8 q9,.slice A37 n37 c37,.slice sA sn sc],IV),sB,?_⟩;(try dsimp only);exact ⟨by rw [hce,av (by omega),han],aU.mkItem (x:=.mk l[k].kind l[k].code l[k].id l[k].text (aW (lsB A) (lsB R) l[k].head) (fC (lsB A) (lsB R) l[k].flow) l[k].rows) (SL.mono BK) ZB (hrs.mono fun b o h=>BK b o (kK b o h)),BK⟩
   clear H;rintro ⟨y,CV,g9⟩ a w hI H;dsimp only at hI H;obtain ⟨hone,wN,tF⟩:=hI;obtain ⟨e1,e2,e3,e4,e5,e6,e7,e8,e9,f1,f2,f3,f4,f5,f6,vJ,-,-,-⟩:=wN.item;rw [vJ] at H;dsimp only [lca,bG] at H;refine fM 2 H ?_;clear H;intro a H;refine aR fZ (cs:=[_,_,_,_,_,_,_,_,_,_,_]) H wn rfl rfl (H.hp.bO 1 rfl rfl) rfl ?_;clear H;intro a H;refine gG nT fZ [_,_,_,_,_,_,_,_,_,_,_] [_,_,_,_,_,_,_,_,_,_,_] H wn rfl rfl rfl rfl rfl (by intro i q h;match i,h with|0,h=>exact h|n+1,h=>simp at h) rfl rfl ?_;clear H;intro b53 a w akO H;refine lJ (Li:=[_,_,_]) (Lo:=Lo) (news:=CV) nT fZ rfl rfl H wn rfl rfl hrw (by rw [vJ];rfl) (by rw [vJ];exact H.hp.bO 0 rfl rfl) wN.one (by omega) (by omega) rfl ?_;clear H;intro v54 PY a w Tm H;refine aD 6 H ?_;clear H;intro a H;refine aC ?_;refine cB ((k+1,v54,xs++CV,PY,_)) (by exact (H.dY (Pl:=[_,_,_]) (dJ:=[]) [] (by decide) rfl).sub ⟨rfl,rfl,rfl,rfl,bq⟩) ?_ ?_
   ·(try dsimp only);exact ⟨by omega,by rw [vX hk2,hone,iA];exact Tm,by rw [vX hk2,hone,kM];exact (dV.mono fun b o h=>tF b o (kK b o h)).snoc wN (by rw [vJ];rfl),fun b o h=>tF b o (kK b o (hgm b o h))⟩
   first|omega|(dsimp only;omega)
  intro p33
  refine ak 1 ?_;intro a H;refine qz (ι:=ay × List aj × GH) (Tc:=[(0,_),(3,_),(5,_),(6,_),(7,_)]) (Lc:=[(_,_)]) (fun gh=>[]) (fun gh=>[(b7,.cells gh.2.1.toArray 68 (0,0))]++Lo) (fun gh=>gh.2.2) (fun gh=>qV (lsB A) (lsB R) l[k]=[gh.1]∧aU gh.2.2 gh.1.dat gh.2.1∧(∀ b o,xq b=some o→gh.2.2 b=some o)) sB ?_ ?_
  ·refine dO 5 H ?_ ?_ <;> clear H
   ·intro p41
    refine ak 3 ?_;intro a H;refine aR wh (cs:=[.slice aA an ac,.slice rA rn rc]) H wn rfl rfl (fun j v hj=>H.hp.aI (aH kK (aH hgm (hga j v hj)))) rfl ?_;clear H;intro a H;refine s_call agb H wn rfl (anM ih (by omega) _ _ H.ro (hd.mono fun b o h=>kK b o (rO b o h)) l[k].rows _ (hrs.mono kK) (by omega)) rfl ?_;clear H;rintro v45 G45 a w Tf JX H;obtain ⟨A45,n45,c45,rfl⟩:=Tf.form;have hn45:=Tf.len;rw [bM] at hn45;subst hn45;refine aD 1 H ?_;clear H;intro a H;refine aX KW 1 (vs:=[_]) _ H wn rfl rfl rfl rfl rfl rfl rfl rfl ?_;clear H;intro w H;dsimp only [List.set,setRow] at H;refine gF 7 H ?_ ?_ <;> clear H
    ·intro p50
     have hone:qV (lsB A) (lsB R) l[k]=[]:=by rw [hce,ah (by omega),av (by omega),av (by omega)]
     refine ak 5 ?_;intro a H;refine aC ?_;refine cB ((k+1,v,xs,Lo,_)) (by exact (H.dY (Pl:=[_,_]) (dJ:=[]) [] (by decide) rfl).sub ⟨rfl,rfl,rfl,rfl,bq⟩) ?_ ?_
     ·(try dsimp only);exact ⟨by omega,by rw [vX hk2,hone,gu];exact hrw,by rw [vX hk2,hone,gu];exact dV.mono fun b o h=>JX b o (kK b o h),fun b o h=>JX b o (kK b o (hgm b o h))⟩
     first|omega|(dsimp only;omega)
    intro p50
    intro a H;refine jL ?_;refine ⟨(.mk l[k].kind l[k].code l[k].id l[k].text (aW (lsB A) (lsB R) l[k].head) l[k].flow (jC (lsB A) (lsB R) l[k].rows),[vi l[k].kind,vi l[k].code,vi l[k].id,.string l[k].text,.slice q1 q2 q3,vi (aW (lsB A) (lsB R) l[k].head).marks.ins,vi (aW (lsB A) (lsB R) l[k].head).marks.move,.slice q4 q5 q6,.slice q7 q8 q9,.slice fA fn fc,.slice A45 (jC (lsB A) (lsB R) l[k].rows).length c45],G45),sB,?_⟩;(try dsimp only);exact ⟨by rw [hce,ah (by omega),av (by omega),ah (by omega),han],aU.mkItem (x:=.mk l[k].kind l[k].code l[k].id l[k].text (aW (lsB A) (lsB R) l[k].head) l[k].flow (jC (lsB A) (lsB R) l[k].rows)) (SL.mono JX) (hfl.mono fun b o h=>JX b o (kK b o h)) Tf,JX⟩
   intro p41
   intro a H;refine jL ?_;refine ⟨(.mk l[k].kind l[k].code l[k].id l[k].text (aW (lsB A) (lsB R) l[k].head) l[k].flow l[k].rows,[vi l[k].kind,vi l[k].code,vi l[k].id,.string l[k].text,.slice q1 q2 q3,vi (aW (lsB A) (lsB R) l[k].head).marks.ins,vi (aW (lsB A) (lsB R) l[k].head).marks.move,.slice q4 q5 q6,.slice q7 q8 q9,.slice fA fn fc,.slice sA sn sc],_),sB,?_⟩;(try dsimp only);exact ⟨by rw [hce,ah (by omega),ah (by omega),han],aU.mkItem (x:=.mk l[k].kind l[k].code l[k].id l[k].text (aW (lsB A) (lsB R) l[k].head) l[k].flow l[k].rows) SL (hfl.mono kK) (hrs.mono kK),fun _ _ h=>h⟩
  clear H;rintro ⟨y,CV,g9⟩ a w hI H;dsimp only at hI H;obtain ⟨hone,wN,tF⟩:=hI;obtain ⟨e1,e2,e3,e4,e5,e6,e7,e8,e9,f1,f2,f3,f4,f5,f6,vJ,-,-,-⟩:=wN.item;rw [vJ] at H;dsimp only [lca,bG] at H;refine fM 2 H ?_;clear H;intro a H;refine aR fZ (cs:=[_,_,_,_,_,_,_,_,_,_,_]) H wn rfl rfl (H.hp.bO 1 rfl rfl) rfl ?_;clear H;intro a H;refine gG nT fZ [_,_,_,_,_,_,_,_,_,_,_] [_,_,_,_,_,_,_,_,_,_,_] H wn rfl rfl rfl rfl rfl (by intro i q h;match i,h with|0,h=>exact h|n+1,h=>simp at h) rfl rfl ?_;clear H;intro b53 a w akO H;refine lJ (Li:=[_,_,_]) (Lo:=Lo) (news:=CV) nT fZ rfl rfl H wn rfl rfl hrw (by rw [vJ];rfl) (by rw [vJ];exact H.hp.bO 0 rfl rfl) wN.one (by omega) (by omega) rfl ?_;clear H;intro v54 PY a w Tm H;refine aD 6 H ?_;clear H;intro a H;refine aC ?_;refine cB ((k+1,v54,xs++CV,PY,_)) (by exact (H.dY (Pl:=[_,_,_]) (dJ:=[]) [] (by decide) rfl).sub ⟨rfl,rfl,rfl,rfl,bq⟩) ?_ ?_
  ·(try dsimp only);exact ⟨by omega,by rw [vX hk2,hone,iA];exact Tm,by rw [vX hk2,hone,kM];exact (dV.mono fun b o h=>tF b o (kK b o h)).snoc wN (by rw [vJ];rfl),fun b o h=>tF b o (kK b o (hgm b o h))⟩
  first|omega|(dsimp only;omega)
 intro oJ
 obtain rfl:k=l.length:=by omega
 rw [uZ] at hrw dV;refine ak 5 ?_;intro a H;refine cu ?_;obtain ⟨G',hm,rQ,H⟩:=H.mR (Li:=[]) hrw (rows:=(fC (lsB A) (lsB R) l).map ay.dat) (by simp) dV;refine lv H results64 rfl ?_;exact H.rt rQ
theorem aaB:∀ n:Nat,n≤536870913→Me A R (.slice aA an ac) (.slice rA rn rc) n
 | 0,_=>fun _ _ _ _ _ _ _ h=>absurd h (by omega)
 | n+1,hn=>anL (aaB n (by omega)) (by omega)
theorem anK (G:GH) (w0:World) (hG:Hold G w0) (D:iE) (d:gI) (hR:jP G D d) (hs:wm 536870912 d) (va vr:aj) (hd:Bc G A R va vr) :
  Calls prog 18 #[D.val,.agg #[va,vr]] w0 (bC w0 G fun u G'=>∃ D':iE,u=D'.val∧jP G' D' (mY (lsB A) (lsB R) d)):=by
 obtain ⟨aA,an,ac,rfl⟩:=hd.ha.form;obtain ⟨rA,rn,rc,rfl⟩:=hd.hr.form;obtain ⟨df,dp,dd,dy,dr,d1,d2,d3,d4,ins,mv⟩:=D;have hfl:=hs.fl;have hhd:=hs.hd;obtain ⟨Sj,Sk,JH,JI,hRr,hRs⟩:=hR;dsimp only at JH JI;subst JH JI;refine eN [(0,_),(1,_)] func18 rfl ntmps18 rfl rfl hG ?_;refine ak 1 ?_;intro a H;refine dP (cs:=[_,_,_,_,_,_,_,_,_,_,_]) H wn rfl rfl rfl ?_;clear H;intro b2 a w hb2 H;refine dP (cs:=[_,_]) H wn rfl rfl rfl ?_;clear H;intro b3 a w hb3 H;refine dz iq H wn rfl ?_;clear H;intro b4 a w hb4 H;refine aD 4 H ?_;clear H;intro a H;refine aR wh (cs:=[_,_]) H wn rfl rfl (H.hp.bO 1 rfl rfl) rfl ?_;clear H;intro a H;refine s_call QY H wn rfl (aaB 536870913 (bP _) _ _ H.ro hd d.flow _ Sj (by omega)) rfl ?_;clear H;rintro v8 G8 a w Ko kL H;obtain ⟨fA,fn,fc,rfl⟩:=Ko.form;refine aD 1 H ?_;clear H;intro a H;refine aX pG 2 (vs:=[_]) _ H wn rfl rfl rfl rfl rfl rfl rfl rfl ?_;clear H;intro w H;dsimp only [List.set,setRow] at H;refine aD 3 H ?_;clear H;intro a H;refine aR dw (cs:=[_,_,_,_,_]) H wn rfl rfl (H.hp.bO 2 rfl rfl) rfl ?_;clear H;intro a H;refine aR wh (cs:=[_,_]) H wn rfl rfl (H.hp.bO 1 rfl rfl) rfl ?_;clear H;intro a H;refine s_call Jo H wn rfl (KC _ _ H.ro A R aA rA an ac rn rc (hd.ha.mono kL) (hd.hr.mono kL) hd.la hd.lr d.fin _ _ _ (Sk.mono kL) (by omega)) rfl ?_;clear H;rintro v14 zP a w SE wK H;obtain ⟨q1,q2,q3,q4,q5,q6,q7,q8,q9,rfl,SI⟩:=SE.ans;refine aD 1 H ?_;clear H;intro a H;(iterate 2 refine jY H wn rfl rfl rfl ?_;clear H;intro a H);refine aD 1 H ?_;clear H;intro a H;refine aX dw 2 (vs:=[_,_,_,_,_]) _ H wn rfl rfl rfl rfl rfl rfl rfl rfl ?_;clear H;intro w H;dsimp only [List.set,setRow] at H;refine aD 2 H ?_;clear H;intro a H;refine aR iq (cs:=[_,_,_,_,_,_,_,_,_,_,_]) H wn rfl rfl (H.hp.bO 2 rfl rfl) rfl ?_;clear H;intro a H;refine aX iq 0 (vs:=[_,_,_,_,_,_,_,_,_,_,_]) _ H wn rfl rfl rfl rfl rfl rfl rfl rfl ?_;clear H;intro w H;dsimp only [List.set,setRow] at H;refine aC ?_;refine dQ ?_;refine cu ?_;refine (leave1 H results18 (.cons (kT iq (cs:=[_,_,_,_,_,_,_,_,_,_,_]) H rfl rfl (H.hp.bO 0 rfl rfl)) .nil) ?_).1;exact H.rt ⟨⟨(fA,fn,fc),(q1,q2,q3),(q4,q5,q6),(q7,q8,q9),dr,d1,d2,d3,d4,(aW (lsB A) (lsB R) d.fin).marks.ins,(aW (lsB A) (lsB R) d.fin).marks.move⟩,rfl,⟨Ko.mono wK,SI,rfl,rfl,hRr.mono (fun b o h=>wK b o (kL b o h)),hRs.mono fun b o h=>wK b o (kL b o h)⟩⟩
end
section
open Go.RowKit
end
section
open Go.RowKit
end
section
open Go.RowKit
end
section
open Go.RowKit
end
section
open Go.RowKit
end
section
open Go.RowKit
theorem asj (l m:List ay):bZ (l++m)=bZ l+bZ m:=by simp [bZ,Iz]
end
section
open Go.RowKit
end
section
open Go.RowKit
def ajK (t:Int) (a:Nat × ay):Bool:=decide ((a.1:Int)+jl a.2≤t)
def lA (t:Int) (A:List (Nat × ay)):List ay:=(A.filter (ajK t)).map (·.2)
end
section
open Go.RowKit
def Wn (l:List ay):Prop:=∀ (k:Nat) (h:k+1 < l.length),¬ (l[k].kind=1∧l[k+1].kind=1∧l[k].head=l[k+1].head)
theorem Wn.one {l:List ay} (h:l.length≤1):Wn l:=fun k hk=>by omega
end
section
open Go.RowKit
end
section
open Go.RowKit
end
section
open Go.RowKit
theorem Vw:∀ {m l:List ay},m.Sublist l→bZ m≤bZ l
 | _,_,.slnil=>bP _
 | _,_,.cons a h=>by have:=Vw h;simp only [bZ,eZ,eG] at *;omega
 | _,_,.cons_cons a h=>by have:=Vw h;simp only [bZ,eZ,eG] at *;omega
end
section
open Go.RowKit
theorem Q6:∀ args w,(callFunc 95 args).run prog w=.ok (.enter 95 args) w:=enters func95 rfl (by kernel_rfl)
theorem ahp:∀ args w,(callFunc 21 args).run prog w=.ok (.enter 21 args) w:=enters func21 rfl (by kernel_rfl)
abbrev Bo (b:Nat) (n:Int):Nat × Obj:=(b,.cells #[vi n] 3 (0,0))
def SmQ (bl:Nat) (left:Int) (z:Nat) (u:aj) (_:GH) (L':OL):Prop:=∃ b lf,u=.bool b∧L'=[Bo bl lf]∧left - (z:Int)≤lf∧lf≤left
def P8 (n:Nat):Prop:=∀ (G:GH) (w0:World) (l:List ay) (v:aj) (Ih left:Int) (bl:Nat),fT G [Bo bl left] w0→au G (.sl 11 (l.map ay.dat)) v→bZ l < n→0≤Ih→Ih≤1000→left≤1000→-1000000000000≤left - (bZ l:Int) →
 Calls prog 95 #[v,vi Ih,(aG bl 0)] w0 (fI w0 G [Bo bl left] (SmQ bl left (bZ l)))
theorem acY (l m:List aV):gH (l++m)=gH l+gH m:=by simp [gH,Iz]
theorem acU (l m:List bB):iI (l++m)=iI l+iI m:=by simp [iI,Iz]
theorem asl {l:List ay} {k:Nat} (h:k < l.length):bZ (l.take (k+1))=bZ (l.take k)+(1+bY l[k].dat):=by rw [fP h,asj];simp [bZ,eG]
theorem asn {l:List aV} {k:Nat} (h:k < l.length):gH (l.take (k+1))=gH (l.take k)+(1+bY l[k].dat):=by rw [fP h,acY];simp [gH,eG]
theorem asi {l:List bB} {k:Nat} (h:k < l.length):iI (l.take (k+1))=iI (l.take k)+(1+bY l[k].dat):=by rw [fP h,acU];simp [iI,eG]
theorem acX (l:List ay) (k:Nat):bZ (l.take k)≤bZ l:=Vw (List.take_sublist k l)
theorem ada (l:List aV) (k:Nat):gH (l.take k)≤gH l:=by
 have:=acY (l.take k) (l.drop k);rw [List.take_append_drop] at this;omega
theorem acW (l:List bB) (k:Nat):iI (l.take k)≤iI l:=by
 have:=acU (l.take k) (l.drop k);rw [List.take_append_drop] at this;omega
theorem aqZ {n:Nat} (ih:P8 n) (hn:n≤4294967296):P8 (n+1):=by
 intro G w0 l v Ih left bl hO hv hz hl0 hl1 hf1 hf0;obtain ⟨A,c,rfl,hc1,hc2,hg⟩:=hv.slice;rw [bM] at *;have hll:=FM l;refine jf (N:=133) (T:=[(0,_),(1,_),(2,_)]) func95 rfl ntmps95 rfl rfl hO ?_;refine ak 8 ?_;intro a H;refine eH (ι:=Nat × Int × GH) (Tc:=[(0,_),(1,_),(2,_)]) (Lc:=[]) (fun gh=>[(7,vi gh.1)]) (fun gh=>[Bo bl gh.2.1]) (fun gh=>gh.2.2) (fun gh=>gh.1≤l.length∧left - (bZ (l.take gh.1):Int)≤gh.2.1∧gh.2.1≤left∧(∀ b o,G b=some o→gh.2.2 b=some o)) (fun gh=>l.length - gh.1) ((0,left,G)) sB ?_ ?_
 ·exact ⟨by omega,by show left - ((0:Nat):Int)≤left;omega,Int.le_refl _,fun _ _ h=>h⟩
 clear H;rintro ⟨k,lf,g⟩ a w hI H;dsimp only at hI H;obtain ⟨hk,hlo,hhi,hgm⟩:=hI;have hzk:=acX l k;dsimp only [lca,bG] at H;refine dO 7 H ?_ ?_ <;> clear H
 ·intro oJ
  have hk2:k < l.length:=by omega
  obtain ⟨b,o,pA,pn,pc,dA,dn,dc,yA,yn,yc,fA,fn,fc,rA,rn,rc,rfl,hrow,hhd,hfl,hrw⟩:=Es hk2 hg;have hrn:=hrw.len;rw [bM] at hrn;subst hrn;have r3:aI g b (o+k*11+3)=some (.string l[k].text):=aH hgm (hrow 3 _ rfl);have r4:aI g b (o+k*11+4+0)=some (.slice pA pn pc):=aH hgm (hrow 4 _ rfl);have r9:aI g b (o+k*11+9)=some (.slice fA fn fc):=aH hgm (hrow 9 _ rfl);have UE:aI g b (o+k*11+10)=some (.slice rA l[k].rows.length rc):=aH hgm (hrow 10 _ rfl);have hzi:=yB l[k];have hzs:=asl hk2;have hzt:=acX l (k+1);refine ak 9 ?_;intro a H;refine aX bR 0 (vs:=[_]) _ H wn rfl rfl rfl rfl rfl rfl rfl rfl ?_;clear H;intro w H;dsimp only [List.set,setRow] at H;refine pU 8 25 H ?_ ?_ <;> clear H
  ·intro p25
   refine ak 48 ?_;intro a H;refine lr H results95 rfl ?_;exact H.hp.dG ⟨_,_,rfl,rfl,by omega,by omega⟩
  intro p25
  refine jM 4 29 ?_ ?_
  ·intro oG
   try have p29:=dT oG
   refine ak 44 ?_;intro a H;refine lr H results95 rfl ?_;exact H.hp.dG ⟨_,_,rfl,rfl,by omega,by omega⟩
  intro oG
  try have p29:=dF oG
  refine ak 5 ?_;intro a H;refine DI jE H (wg H rfl rfl oG) rfl rfl ?_;clear H;refine lU 3 38 ?_ ?_
  ·intro p38
   refine ak 35 ?_;intro a H;refine lr H results95 rfl ?_;exact H.hp.dG ⟨_,_,rfl,rfl,by omega,by omega⟩
  intro p38
  refine lU 10 48 ?_ ?_
  ·intro p48
   refine ak 25 ?_;intro a H;refine lr H results95 rfl ?_;exact H.hp.dG ⟨_,_,rfl,rfl,by omega,by omega⟩
  intro p48
  refine jM 9 57 ?_ ?_
  ·intro h57
   try have p57:=dT h57
   refine ak 16 ?_;intro a H;refine lr H results95 rfl ?_;exact H.hp.dG ⟨_,_,rfl,rfl,by omega,by omega⟩
  intro h57
  try have p57:=dF h57
  refine ak 6 ?_;intro a H;refine lK _ H (wg H rfl rfl h57) rfl rfl rfl (by omega) (by omega) rfl ?_;clear H;refine ak 1 ?_;intro a H;refine gy Q6 (Li:=[]) (L:=[Bo bl _]) H (wg H rfl rfl h57) rfl (ih _ _ l[k].flow _ (Ih - 1) _ bl (Hp.owns (Li:=[]) H.hp) (hfl.mono hgm) (by omega) (by omega) (by omega) (by omega) (by omega)) rfl ?_;clear H;rintro v66 G66 L66 a w ⟨b66,lf66,rfl,rfl,atv,att⟩ Zn H;dsimp only [List.nil_append] at H;replace UE:=aH Zn UE;have aly:=fun b o h=>Zn b o (hgm b o h);refine gF 3 H ?_ ?_ <;> clear H
  ·intro p68
   refine ak 3 ?_;intro a H;refine lr H results95 rfl ?_;exact H.hp.dG ⟨_,_,rfl,rfl,by omega,by omega⟩
  intro p68
  refine ak 5 ?_;intro a H;refine eH (ι:=Nat × Int × GH) (Tc:=[(0,_),(1,_),(2,_),(7,_)]) (Lc:=[]) (fun gh=>[(8,vi gh.1)]) (fun gh=>[Bo bl gh.2.1]) (fun gh=>gh.2.2) (fun gh=>gh.1≤l[k].rows.length∧lf66 - (gH (l[k].rows.take gh.1):Int)≤gh.2.1∧gh.2.1≤lf66∧(∀ b o,G b=some o→gh.2.2 b=some o)∧aI gh.2.2 b (o+k*11+10)=some (.slice rA l[k].rows.length rc)) (fun gh=>l[k].rows.length - gh.1) ((0,lf66,G66)) sB ?_ ?_
  ·exact ⟨by omega,by show lf66 - ((0:Nat):Int)≤lf66;omega,Int.le_refl _,aly,UE⟩
  clear H;rintro ⟨j,lf2,g2⟩ a w hI H;dsimp only at hI H;obtain ⟨hj,hlo2,hhi2,iT,q10⟩:=hI;have atK:=ada l[k].rows j;dsimp only [lca,bG] at H;refine dO 11 H ?_ ?_ <;> clear H
  ·intro KG
   have hj2:j < l[k].rows.length:=by omega
   obtain ⟨b2,o2,uA,un,uc,eA,en,ec,zA,zn,zc,cA,cn,cc,rfl,hrow2,BR,hcl⟩:=KJ hj2 (hrw.mono iT).at_;have hcn:=hcl.len;rw [bM] at hcn;subst hcn;have t5:aI g2 b2 (o2+j*6+5)=some (.slice cA l[k].rows[j].cells.length cc):=hrow2 5 _ rfl;have atI:=Cz l[k].rows[j];have atM:=asn hj2;have atO:=ada l[k].rows (j+1);refine goB 17 ?_ ?_
   ·intro p89
    refine ak 3 ?_;intro a H;refine lr H results95 rfl ?_;exact H.hp.dG ⟨_,_,rfl,rfl,by omega,by omega⟩
   intro p89
   refine ak 5 ?_;intro a H;refine eH (ι:=Nat × Int × GH) (Tc:=[(0,_),(1,_),(2,_),(7,_),(8,_)]) (Lc:=[]) (fun gh=>[(9,vi gh.1)]) (fun gh=>[Bo bl gh.2.1]) (fun gh=>gh.2.2) (fun gh=>gh.1≤l[k].rows[j].cells.length∧lf2 - (iI (l[k].rows[j].cells.take gh.1):Int)≤gh.2.1∧gh.2.1≤lf2∧(∀ b o,G b=some o→gh.2.2 b=some o)∧aI gh.2.2 b (o+k*11+10)=some (.slice (some ⟨b2,o2,none⟩) l[k].rows.length rc)∧aI gh.2.2 b2 (o2+j*6+5)=some (.slice cA l[k].rows[j].cells.length cc)∧(∀ b o,g2 b=some o→gh.2.2 b=some o)) (fun gh=>l[k].rows[j].cells.length - gh.1) ((0,lf2,g2)) sB ?_ ?_
   ·exact ⟨by omega,by show lf2 - ((0:Nat):Int)≤lf2;omega,Int.le_refl _,iT,q10,t5,fun _ _ h=>h⟩
   clear H;rintro ⟨m,lf3,g3⟩ a w hI H;dsimp only at hI H;obtain ⟨hm,hlo3,hhi3,vK,s10,s5,Za⟩:=hI;have atL:=acW l[k].rows[j].cells m;dsimp only [lca,bG] at H;refine dO 15 H ?_ ?_ <;> clear H
   ·intro aov
    have hm2:m < l[k].rows[j].cells.length:=by omega
    obtain ⟨b3,o3,x1,x2,x3,x4,x5,x6,x7,x8,x9,gA,gn,gc,rfl,hrow3,hch,hcf⟩:=Jb hm2 (hcl.mono Za).at_;have u6:aI g3 b3 (o3+m*7+6)=some (.slice gA gn gc):=hrow3 6 _ rfl;have atJ:=Cy l[k].rows[j].cells[m];have atN:=asi hm2;have atP:=acW l[k].rows[j].cells (m+1);refine ak 9 ?_;intro a H;refine aX bR 0 (vs:=[_]) _ H wn rfl rfl rfl rfl rfl rfl rfl rfl ?_;clear H;intro w H;dsimp only [List.set,setRow] at H;refine kJ 7 113 H ?_ ?_ <;> clear H
    ·intro Jw
     try have aoy:=dT Jw
     refine ak 24 ?_;intro a H;refine lr H results95 rfl ?_;exact H.hp.dG ⟨_,_,rfl,rfl,by omega,by omega⟩
    intro Jw
    try have aoy:=dF Jw
    refine ak 14 ?_;intro a H;refine lK _ H (wg H rfl rfl Jw) rfl rfl rfl (by omega) (by omega) rfl ?_;clear H;refine ak 1 ?_;intro a H;refine gy Q6 (Li:=[]) (L:=[Bo bl _]) H (wg H rfl rfl Jw) rfl (ih _ _ l[k].rows[j].cells[m].flow _ (Ih - 1) _ bl (Hp.owns (Li:=[]) H.hp) hcf (by omega) (by omega) (by omega) (by omega) (by omega)) rfl ?_;clear H;rintro v130 adi asG a w ⟨asL,anr,rfl,rfl,atu,atr⟩ Nz H;dsimp only [List.nil_append] at H;refine gF 3 H ?_ ?_ <;> clear H
    ·intro aaZ
     refine ak 3 ?_;intro a H;refine lr H results95 rfl ?_;exact H.hp.dG ⟨_,_,rfl,rfl,by omega,by omega⟩
    intro aaZ
    refine ak 5 ?_;intro a H;refine aC ?_;refine cB ((m+1,anr,adi)) sB ?_ ?_
    ·(try dsimp only);exact ⟨by omega,by omega,by omega,fun b o h=>Nz b o (vK b o h),aH Nz s10,aH Nz s5,fun b o h=>Nz b o (Za b o h)⟩
    first|omega|(dsimp only;omega)
   intro aov
   refine ak 5 ?_;intro a H;refine aC ?_;refine cB ((j+1,lf3,g3)) sB ?_ ?_
   ·(try dsimp only);exact ⟨by omega,by omega,by omega,vK,s10⟩
   first|omega|(dsimp only;omega)
  intro KG
  refine ak 5 ?_;intro a H;refine aC ?_;refine cB ((k+1,lf2,g2)) sB ?_ ?_
  ·(try dsimp only);exact ⟨by omega,by omega,by omega,iT⟩
  first|omega|(dsimp only;omega)
 intro oJ
 refine ak 4 ?_;intro a H;refine lr H results95 rfl ?_;exact H.hp.dG ⟨_,_,rfl,rfl,by omega,by omega⟩
theorem abQ:∀ n:Nat,n≤4294967296→P8 n
 | 0,_=>fun _ _ _ _ _ _ _ _ _ hz=>absurd hz (Nat.not_lt_zero _)
 | n+1,h=>aqZ (abQ n (by omega)) (by omega)
theorem aqX (G:GH) (w0:World) (hG:Hold G w0) (D:iE) (d:gI) (hR:jP G D d) (hz:xk d) :
  Calls prog 45 #[D.val] w0 (bC w0 G fun u G'=>∃ b,u=.bool b∧(b=true→jc d=0)):=by
 have Kt:=hz.fl;refine eN [(0,_)] func45 rfl ntmps45 rfl rfl hG ?_;refine ak 1 ?_;intro a H;refine dP (cs:=[_,_,_,_,_,_,_,_,_,_,_]) H wn rfl rfl rfl ?_;clear H;intro b1 a w hb1 H;refine aD 2 H ?_;clear H;intro a H;obtain ⟨Ga,hma,hb1',H⟩:=H.eu;have hga:=fun j v hj=>kW hb1' 0 D.cells rfl j v hj;have hgs:=fun j v hj=>kW hb1' 7 [aM D.s1,aM D.s2,aM D.s3,aM D.s4] rfl j v hj
 have hgr:aI Ga b1 6=some (aM D.r):=by unfold aI;rw [hb1'];rfl
 have hgf:aI Ga b1 0=some (aM D.f):=by unfold aI;rw [hb1'];rfl
 replace hR:=hR.mono hma;refine yP ?_;refine dz bR H wn rfl ?_;clear H;intro b3 a w hb3 H;refine aX bR 0 (vs:=[_]) _ H wn rfl rfl rfl rfl rfl rfl rfl rfl ?_;clear H;intro w H;dsimp only [List.set,setRow] at H;refine aD 3 H ?_;clear H;intro a H;refine aR sD (cs:=[aM D.s1,aM D.s2,aM D.s3,aM D.s4]) H wn rfl rfl (fun j v hj=>H.hp.aI (hgs j v hj)) rfl ?_;clear H;intro a H;refine dz sD H wn rfl ?_;clear H;intro b4 a w hb4 H;refine aX sD 0 (vs:=[_,_,_,_]) _ H wn rfl rfl rfl rfl rfl rfl rfl rfl ?_;clear H;intro w H;dsimp only [List.set,setRow] at H;refine pU 7 11 H ?_ ?_ <;> clear H
 ·intro qg
  refine lU 6 17 ?_ ?_
  ·intro jH
   refine lU 6 23 ?_ ?_
   ·intro Az
    refine lU 6 29 ?_ ?_
    ·intro p29
     refine jM 6 35 ?_ ?_
     ·intro yR
      try have p35:=dT yR
      refine ak 2 ?_;intro a H;refine gy Q6 (Li:=[_]) (L:=[Bo b3 150]) H (wg H rfl rfl yR) rfl (abQ 4294967296 (bP _) _ _ d.flow _ 12 150 b3 (Hp.owns (Li:=[_]) H.hp) hR.fl (by omega) (by decide) (by decide) (by decide) (by omega)) rfl ?_;clear H;rintro v38 PK L38 a w ⟨b38,lf38,rfl,rfl,-,-⟩ HV H;refine kJ 2 40 H ?_ ?_ <;> clear H
      ·intro sZ
       try have p40:=dT sZ
       intro a H;refine aR iq (cs:=D.cells) H (wg H rfl rfl sZ) rfl rfl (fun j v hj=>H.hp.aI (aH HV (hga j v hj))) rfl ?_;clear H;intro a H;refine s_call ahp H (wg H rfl rfl sZ) rfl (aeJ _ _ H.ro D d (hR.mono HV) hz) rfl ?_;clear H;rintro v42 LW a w rfl atx H;refine fu 4 H ?_;exact ⟨_,rfl,fun h=>by first|assumption|(simp_all;done)⟩
      intro sZ
      try have p40:=dF sZ
      refine aP 6 ?_;exact ⟨_,rfl,fun h=>by first|assumption|(simp_all;done)⟩
     intro yR
     try have p35:=dF yR
     refine aP 11 ?_;exact ⟨_,rfl,fun h=>by first|assumption|(simp_all;done)⟩
    intro p29
    refine aP 17 ?_;exact ⟨_,rfl,fun h=>by first|assumption|(simp_all;done)⟩
   intro Az
   refine aP 23 ?_;exact ⟨_,rfl,fun h=>by first|assumption|(simp_all;done)⟩
  intro jH
  refine aP 29 ?_;exact ⟨_,rfl,fun h=>by first|assumption|(simp_all;done)⟩
 intro qg
 refine aP 35 ?_;exact ⟨_,rfl,fun h=>by first|assumption|(simp_all;done)⟩
end
section
open Go.RowKit
theorem U6:pI prog 68 [(0,1),(1,1),(2,1),(3,1),(4,5),(9,1),(10,1)] [.int .i64 0,.int .i64 0,.int .i64 0,.string ⟨#[]⟩,.slice none 0 0,.int .i64 0,.int .i64 0,.slice none 0 0,.slice none 0 0,.slice none 0 0,.slice none 0 0]:=⟨by kernel_rfl,by kernel_rfl⟩
theorem ark:pI prog 159 [(0,1),(1,1)] [.int .i64 0,.int .i64 0]:=⟨by kernel_rfl,by kernel_rfl⟩
theorem ari:pI prog 102 [(0,1),(1,1),(2,1)] [.int .i64 0,.string ⟨#[]⟩,.int .i64 0]:=⟨by kernel_rfl,by kernel_rfl⟩
theorem X4:∀ args w,(callFunc 44 args).run prog w=.ok (.enter 44 args) w:=enters func44 rfl (by kernel_rfl)
theorem agv:∀ args w,(callFunc 14 args).run prog w=.ok (.enter 14 args) w:=enters func14 rfl (by kernel_rfl)
theorem agB:∀ args w,(callFunc 15 args).run prog w=.ok (.enter 15 args) w:=enters func15 rfl (by kernel_rfl)
theorem ahX:∀ args w,(callFunc 45 args).run prog w=.ok (.enter 45 args) w:=enters func45 rfl (by kernel_rfl)
def yx (k:Int) (t:ByteArray) (i:Int) (ds:List fF):ay:=.mk k 0 0 t ⟨[],⟨i,0,ds,[]⟩⟩ [] []
def uo:gI:=⟨[yx 1 ⟨#[97,98]⟩ 0 [],yx 1 ⟨#[99,100]⟩ 3 [],yx 1 ⟨#[101]⟩ 0 [⟨5,0⟩],yx 2 ⟨#[]⟩ 0 []],zM,[⟨3,⟨#[65,110]⟩,0⟩,⟨5,⟨#[66,111]⟩,0⟩],⟨[],[],[],[]⟩⟩
theorem o24:(nD (mY (fun _=>false) (fun _=>true) uo)).flow.length=2:=by kernel_rfl
theorem aol:((nD (mY (fun _=>false) (fun _=>true) uo)).flow.map ay.text).head?=some ⟨#[97,98,101]⟩:=by kernel_rfl
theorem aok:(nD (mY (fun _=>false) (fun _=>true) uo)).revs.length=0:=by kernel_rfl
theorem f24:(nD (mY (fun _=>true) (fun _=>false) uo)).flow.length=2:=by kernel_rfl
theorem aji:((nD (mY (fun _=>true) (fun _=>false) uo)).flow.map ay.text).head?=some ⟨#[97,98,99,100]⟩:=by kernel_rfl
theorem ajh:(nD (mY (fun _=>true) (fun _=>false) uo)).revs.length=0:=by kernel_rfl
theorem z24:bZ uo.flow≤1000:=by decide
theorem c24:jc uo=0:=by kernel_rfl
theorem s24:wm 536870912 uo:=by
 have h:=z24
 have h0:kU zM≤1000:=by decide
 refine ⟨⟨by omega,by show kU zM≤_;omega,by decide,fun x hx=>?_,by decide,⟨fun _ h=>(by cases h),by decide,fun _ h=>(by cases h),by decide,fun _ h=>(by cases h),by decide,fun _ h=>(by cases h),fun _ h=>(by cases h),fun _ h=>(by cases h)⟩⟩,by omega,by show kU zM≤_;omega⟩
 simp only [uo,kg,List.not_mem_nil,or_false] at hx
 rcases hx with rfl|rfl <;> decide
theorem alu {F:List ay} {t:ByteArray} (h:(F.map ay.text).head?=some t) (h0:0 < F.length):F[0].text=t:=by
 cases F with
 | nil=>exact absurd h0 (by decide)
 | cons x F=>simpa using h
theorem Yb (G:GH) (w0:World) (hG:Hold G w0) :
  Calls prog 44 #[] w0 (bC w0 G fun u G'=>∃ D:iE,u=D.val∧jP G' D uo):=by
 refine eN [] func44 rfl ntmps44 rfl rfl hG ?_;refine ak 1 ?_;intro a H;refine dz iq H wn rfl ?_;clear H;intro b0 a w hb0 H;refine aD 2 H ?_;clear H;intro a H;refine jh U6 [_,_,_,_,_,_,_,_,_,_,_] H wn rfl rfl rfl rfl ?_;clear H;intro a H;refine jh U5 [_,_,_,_] H wn rfl rfl rfl rfl ?_;clear H;intro a H;refine jh Iy [_,_,_,_,_] H wn rfl rfl rfl rfl ?_;clear H;intro a H;refine jh U6 [_,_,_,_,_,_,_,_,_,_,_] H wn rfl rfl rfl rfl ?_;clear H;intro a H;refine jh ark [_,_] H wn rfl rfl rfl rfl ?_;clear H;intro a H;refine gG yj ow [_,_] [_,_] H wn rfl rfl rfl rfl rfl (by intro i q h;match i,h with|0,h=>exact h|n+1,h=>simp at h) rfl rfl ?_;clear H;intro b6 a w hb6 H;refine jh U5 [_,_,_,_] H wn rfl rfl rfl rfl ?_;clear H;intro a H;refine jh Iy [_,_,_,_,_] H wn rfl rfl rfl rfl ?_;clear H;intro a H;(iterate 2 refine jh U6 [_,_,_,_,_,_,_,_,_,_,_] H wn rfl rfl rfl rfl ?_;clear H;intro a H);refine gG nT fZ [_,_,_,_,_,_,_,_,_,_,_,_,_,_,_,_,_,_,_,_,_,_,_,_,_,_,_,_,_,_,_,_,_,_,_,_,_,_,_,_,_,_,_,_] [_,_,_,_,_,_,_,_,_,_,_,_,_,_,_,_,_,_,_,_,_,_,_,_,_,_,_,_,_,_,_,_,_,_,_,_,_,_,_,_,_,_,_,_] H wn rfl rfl rfl rfl rfl (by intro i q h;match i,h with|0,h=>exact h|1,h=>exact h|2,h=>exact h|3,h=>exact h|n+4,h=>simp at h) rfl rfl ?_;clear H;intro b11 a w Ez H;(iterate 2 refine jh ari [_,_,_] H wn rfl rfl rfl rfl ?_;clear H;intro a H);refine gG sG ou [_,_,_,_,_,_] [_,_,_,_,_,_] H wn rfl rfl rfl rfl rfl (by intro i q h;match i,h with|0,h=>exact h|1,h=>exact h|n+2,h=>simp at h) rfl rfl ?_;clear H;intro b14 a w YU H;refine jh OX [_,_,_,_,_,_,_,_,_,_,_] H wn rfl rfl rfl rfl ?_;clear H;intro a H;refine aX iq 3 (vs:=[_,_,_,_,_,_,_,_,_,_,_]) _ H wn rfl rfl rfl rfl rfl rfl rfl rfl ?_;clear H;intro w H;dsimp only [List.set,setRow] at H;refine aC ?_;refine dQ ?_;refine cu ?_;refine (leave1 H results44 (.cons (kT iq (cs:=[_,_,_,_,_,_,_,_,_,_,_]) H rfl rfl (H.hp.bO 3 rfl rfl)) .nil) ?_).1;have H:=H.dY (Pl:=[_,_,_,_]) (dJ:=[_,_,_]) [2,1,0] (by decide) rfl;obtain ⟨G1,hm1,Sq,H⟩:=H.eu;obtain ⟨G2,hm2,Ak,H⟩:=H.eu;obtain ⟨G3,Zk,Sm,H⟩:=H.eu;have nl:∀ {sz:Nat},au G2 (.sl sz []) (.slice none 0 0):=fun {sz}=>au.iH rfl (by decide);have Fe:∀ {sz:Nat},au G3 (.sl sz []) (.slice none 0 0):=fun {sz}=>au.iH rfl (by decide);have d1:au G2 (.sl 2 ([(⟨5,0⟩:fF)].map fF.dat)) (.slice (some ⟨b6,0,none⟩) 1 1):=au.eX (n:=1) (cap:=1) (hm2 _ _ Sq) rfl (bP _) (show 1≤maxLen by decide) rfl (bU.nil.snoc (Xt G2 ⟨5,0⟩) rfl);have r1:aU G2 (yx 1 ⟨#[97,98]⟩ 0 []).dat _:=aU.mkItem (x:=yx 1 ⟨#[97,98]⟩ 0 []) ⟨nl,nl,nl⟩ nl nl;have r2:aU G2 (yx 1 ⟨#[99,100]⟩ 3 []).dat _:=aU.mkItem (x:=yx 1 ⟨#[99,100]⟩ 3 []) ⟨nl,nl,nl⟩ nl nl;have r3:aU G2 (yx 1 ⟨#[101]⟩ 0 [⟨5,0⟩]).dat _:=aU.mkItem (x:=yx 1 ⟨#[101]⟩ 0 [⟨5,0⟩]) ⟨nl,d1,nl⟩ nl nl;have r4:aU G2 (yx 2 ⟨#[]⟩ 0 []).dat _:=aU.mkItem (x:=yx 2 ⟨#[]⟩ 0 []) ⟨nl,nl,nl⟩ nl nl;have dV:bU G2 11 (uo.flow.map ay.dat) _:=(((bU.nil.snoc r1 rfl).snoc r2 rfl).snoc r3 rfl).snoc r4 rfl;have hcr:bU G3 3 (uo.revs.map bX.dat) _:=(bU.nil.snoc (KN G3 ⟨3,⟨#[65,110]⟩,0⟩) rfl).snoc (KN G3 ⟨5,⟨#[66,111]⟩,0⟩) rfl;exact H.rt ⟨⟨(some ⟨b11,0,none⟩,4,4),(none,0,0),(none,0,0),(none,0,0),(some ⟨b14,0,none⟩,2,2),(none,0,0),(none,0,0),(none,0,0),(none,0,0),0,0⟩,rfl,⟨(au.eX (n:=4) (cap:=4) Ak rfl (bP _) (show 4≤maxLen by decide) rfl dV).mono Zk,⟨Fe,Fe,Fe⟩,rfl,rfl,au.eX (n:=2) (cap:=2) Sm rfl (bP _) (show 2≤maxLen by decide) rfl hcr,⟨Fe,Fe,Fe,Fe⟩⟩⟩
theorem Xz {G:GH} {E:iE} {e:gI} {t:ByteArray} (hE:jP G E e) (h2:e.flow.length=2) (ht:(e.flow.map ay.text).head?=some t) (hr:e.revs.length=0) :
  ∃ b o fc rA rc,E.f=(some ⟨b,o,none⟩,2,fc)∧E.r=(rA,0,rc)∧aI G b (o+0*11+3)=some (.string t):=by
 obtain ⟨⟨fA,fn,fc⟩,_,_,_,⟨rA,rn,rc⟩,_,_,_,_,_,_⟩:=E;have hf:=hE.fl;have hv:=hE.rv;dsimp only [aM] at hf hv;have n1:=hf.len;have n2:=hv.len;rw [bM] at n1 n2;obtain ⟨A,c,e4,-,-,hg⟩:=hf.slice;rw [bM] at e4
 injection e4 with e4 e5 e6
 subst e4;obtain ⟨b,o,_,_,_,_,_,_,_,_,_,_,_,_,_,_,_,rfl,hrow,-⟩:=Es (show 0 < e.flow.length by omega) hg;have h3:=hrow 3 _ rfl;rw [alu ht] at h3;exact ⟨b,o,fc,rA,rc,by rw [n1,h2],by rw [n2,hr],h3⟩
theorem TT (G:GH) (w0:World) (hG:Hold G w0):Calls prog 12 #[] w0 (bC w0 G fun u G'=>u=.bool true):=by
 refine eN [] func12 rfl ntmps12 rfl rfl hG ?_;intro a H;refine kP H (SQ fun _ K1=>SC (iD K1 rfl (SQ fun _ K2=>SC ?_)));clear H K1;intro a H;refine s_call X4 H wn rfl (Yb _ _ H.ro) rfl ?_;clear H;rintro v3 G3 a w ⟨D3,rfl,hD3⟩ Zk H;refine s_call agv H wn rfl (apn _ _ H.ro D3 uo hD3 s24 c24) rfl ?_;clear H;rintro v4 G4 a w ⟨E,rfl,hE⟩ JV H;obtain ⟨b4,o4,fc,rA,rc,e1,e2,zx⟩:=Xz hE o24 aol aok;obtain ⟨_,_,_,_,_,_,_,_,_,_,_⟩:=E;dsimp only at e1 e2;subst e1 e2
 simp only [iE.val,iE.cells,aM] at H
 refine dz iq H wn rfl ?_;clear H;intro b1 a w hb1 H;refine aX iq 0 (vs:=[_,_,_,_,_,_,_,_,_,_,_]) _ H wn rfl rfl rfl rfl rfl rfl rfl rfl ?_;clear H;intro w H;dsimp only [List.set,setRow] at H;refine kH H (Kn K2 (SQ fun _ K3=>SC ?_));clear H K2;intro a H;refine s_call X4 H wn rfl (Yb _ _ H.ro) rfl ?_;clear H;rintro v5 G5 a w ⟨D5,rfl,hD5⟩ Dc H;refine s_call agB H wn rfl (apm _ _ H.ro D5 uo hD5 s24 c24) rfl ?_;clear H;rintro v6 G6 a w ⟨E6,rfl,hE6⟩ EK H;obtain ⟨b6,o6,gc,sA,sc,e3,e4,ht6⟩:=Xz hE6 f24 aji ajh;obtain ⟨_,_,_,_,_,_,_,_,_,_,_⟩:=E6;dsimp only at e3 e4;subst e3 e4
 simp only [iE.val,iE.cells,aM] at H
 replace zx:=aH (fun b o h=>EK b o (Dc b o h)) zx;refine dz iq H wn rfl ?_;clear H;intro b2 a w hb2 H;refine aX iq 0 (vs:=[_,_,_,_,_,_,_,_,_,_,_]) _ H wn rfl rfl rfl rfl rfl rfl rfl rfl ?_;clear H;intro w H;dsimp only [List.set,setRow] at H;refine kH H (Kn K3 (SQ fun _ K4=>SC (I5 MX pG 1 rfl rfl (Rl nT rfl (Rc rfl (Rm rfl (Sp 11 rfl ?_ ?_))))))) <;> clear H K3
 ·intro h11 a H
  try have qg:=dT h11
  refine kH H (YF MX h11 rfl (YO pG 1 h11 rfl ?_));clear H;intro a H;refine wU nT fZ 0 H (wg H rfl rfl h11) rfl rfl rfl (by decide) rfl ?_;clear H;intro a H;refine kH H (YF GU h11 rfl (YR mh h11 rfl zx ?_));clear H;intro a H;refine AO H (wg H rfl rfl h11) rfl rfl rfl ?_;clear H;intro a H;refine kH H (Pt h11 rfl (Rm rfl (Sp 19 rfl ?_ ?_))) <;> clear H
  ·intro h19 a H
   try have rX:=dT h19
   refine kH H (YF MX h19 rfl (YO pG 0 h19 rfl (YL nT h19 rfl (YC h19 rfl (Pt h19 rfl (Rm rfl (Sp 25 rfl ?_ ?_))))))) <;> clear H
   ·intro wH a H
    try have p25:=dT wH
    refine kH H (YF MX wH rfl (YO pG 0 wH rfl ?_));clear H;intro a H;refine wU nT fZ 0 H (wg H rfl rfl wH) rfl rfl rfl (by decide) rfl ?_;clear H;intro a H;refine kH H (YF GU wH rfl (YR mh wH rfl ht6 ?_));clear H;intro a H;refine AO H (wg H rfl rfl wH) rfl rfl rfl ?_;clear H;intro a H;refine kH H (Pt wH rfl (Rm rfl (Sp 33 rfl ?_ ?_))) <;> clear H
    ·intro sW a H
     try have p33:=dT sW
     refine kH H (YF Rt sW rfl (YO zK 1 sW rfl (YL sG sW rfl (YF Rt sW rfl (YO zK 0 sW rfl (YL sG sW rfl ?_))))));clear H;intro a H;refine KO _ H (wg H rfl rfl sW) rfl rfl rfl (by omega) (by omega) rfl ?_;clear H;intro a H;refine kH H (YC sW rfl (Pt sW rfl (iD K4 rfl ?_)));clear H K4;intro a H;refine lr H results12 rfl ?_
     first
      | exact H.rt rfl
      | (exfalso;simp_all;done)
      | (exfalso;simp_all;omega)
    intro sW a H
    try have p33:=dF sW
    refine kH H (lN sW rfl (lN sW rfl (nU sW rfl (Pf sW rfl (iD K4 rfl ?_)))));clear H K4;intro a H;refine lr H results12 rfl ?_
    first
     | exact H.rt rfl
     | (exfalso;simp_all;done)
     | (exfalso;simp_all;omega)
   intro wH a H
   try have p25:=dF wH
   refine kH H (lN wH rfl (lN wH rfl (Pf wH rfl (Rm rfl (lN rfl rfl (lN rfl rfl (nU rfl rfl (Pf rfl rfl (iD K4 rfl ?_)))))))));clear H K4;intro a H;refine lr H results12 rfl ?_
   first
    | exact H.rt rfl
    | (exfalso;simp_all;done)
    | (exfalso;simp_all;omega)
  intro h19 a H
  try have rX:=dF h19
  refine kH H (nU h19 rfl (nU h19 rfl (Pf h19 rfl (Rm rfl (lN rfl rfl (lN rfl rfl (Pf rfl rfl (Rm rfl (lN rfl rfl (lN rfl rfl (nU rfl rfl (Pf rfl rfl (iD K4 rfl ?_)))))))))))));clear H K4;intro a H;refine lr H results12 rfl ?_
  first
   | exact H.rt rfl
   | (exfalso;simp_all;done)
   | (exfalso;simp_all;omega)
 intro h11 a H
 try have qg:=dF h11
 refine kH H (lN h11 rfl (lN h11 rfl (Pf h11 rfl (Rm rfl (nU rfl rfl (nU rfl rfl (Pf rfl rfl (Rm rfl (lN rfl rfl (lN rfl rfl (Pf rfl rfl (Rm rfl (lN rfl rfl (lN rfl rfl (nU rfl rfl (Pf rfl rfl (iD K4 rfl ?_)))))))))))))))));clear H K4;intro a H;refine lr H results12 rfl ?_
 first
  | exact H.rt rfl
  | (exfalso;simp_all;done)
  | (exfalso;simp_all;omega)
theorem aqY (G:GH) (w0:World) (hG:Hold G w0) (D:iE) (d:gI) (hR:jP G D d) (hz:xk d) (A R:List Int) (va vr:aj) (hd:Bc G A R va vr) :
  Calls prog 13 #[D.val,.agg #[va,vr]] w0 (bC w0 G fun u G'=>∃ b,u=.bool b∧(b=true→jc d=0∧A.length≤300∧R.length≤300)):=by
 obtain ⟨aA,ac,rfl,-,-,-⟩:=hd.ha.slice;obtain ⟨rA,rc,rfl,-,-,-⟩:=hd.hr.slice
 simp only [bM] at *
 refine eN [(0,_),(1,_)] func13 rfl ntmps13 rfl rfl hG ?_;refine ak 1 ?_;intro a H;refine dP (cs:=[_,_,_,_,_,_,_,_,_,_,_]) H wn rfl rfl rfl ?_;clear H;intro b2 a w hb2 H;refine dP (cs:=[_,_]) H wn rfl rfl rfl ?_;clear H;intro b3 a w hb3 H;refine pU 8 9 H ?_ ?_ <;> clear H
 ·intro p9
  refine jM 6 15 ?_ ?_
  ·intro uz
   try have qh:=dT uz
   intro a H;refine aR iq (cs:=[_,_,_,_,_,_,_,_,_,_,_]) H (wg H rfl rfl uz) rfl rfl (H.hp.bO 1 rfl rfl) rfl ?_;clear H;intro a H;refine s_call ahX H (wg H rfl rfl uz) rfl (aqX _ _ H.ro D d hR hz) rfl ?_;clear H;rintro v17 yE a w ⟨b17,rfl,Nn⟩ qR H;refine fu 3 H ?_
   first
    | exact ⟨_,rfl,fun h=>⟨Nn h,by omega,by omega⟩⟩
    | exact ⟨_,rfl,fun h=>by cases h⟩
  intro uz
  try have qh:=dF uz
  refine aP 5 ?_
  first
   | exact ⟨_,rfl,fun h=>⟨Nn h,by omega,by omega⟩⟩
   | exact ⟨_,rfl,fun h=>by cases h⟩
 intro p9
 refine aP 11 ?_
 first
  | exact ⟨_,rfl,fun h=>⟨Nn h,by omega,by omega⟩⟩
  | exact ⟨_,rfl,fun h=>by cases h⟩
end
section
open Go.RowKit
theorem QW:∀ args w,(callFunc 51 args).run prog w=.ok (.enter 51 args) w:=enters func51 rfl (by kernel_rfl)
theorem ahm:∀ args w,(callFunc 216 args).run prog w=.ok (.enter 216 args) w:=enters func216 rfl (by kernel_rfl)
theorem agI:∀ args w,(callFunc 166 args).run prog w=.ok (.enter 166 args) w:=enters func166 rfl (by kernel_rfl)
theorem afN:∀ args w,(callFunc 100 args).run prog w=.ok (.enter 100 args) w:=enters func100 rfl (by kernel_rfl)
theorem ahn:∀ args w,(callFunc 217 args).run prog w=.ok (.enter 217 args) w:=enters func217 rfl (by kernel_rfl)
theorem agJ:∀ args w,(callFunc 167 args).run prog w=.ok (.enter 167 args) w:=enters func167 rfl (by kernel_rfl)
theorem afO:∀ args w,(callFunc 101 args).run prog w=.ok (.enter 101 args) w:=enters func101 rfl (by kernel_rfl)
theorem bytes_beq (p q:ByteArray):((p.toList == q.toList)=true)↔p=q:=by
 rw [ByteArray.toList_eq,ByteArray.toList_eq,beq_iff_eq];exact ⟨fun e=>Go.WideShapes.bytes_inj e,fun e=>by rw [e]⟩
theorem ay.eq_iff (a b:ay):((((((a.kind=b.kind∧a.code=b.code)∧a.id=b.id)∧a.text=b.text)∧a.head=b.head)∧a.flow=b.flow)∧a.rows=b.rows)↔a=b:=by
 cases a;cases b
 simp [ay.kind,ay.code,ay.id,ay.text,ay.head,ay.flow,ay.rows,and_assoc]
theorem aV.eq_iff (a b:aV):(a.head=b.head∧a.cells=b.cells)↔a=b:=by
 cases a;cases b
 simp [aV.head,aV.cells]
theorem bB.eq_iff (a b:bB):((a.id=b.id∧a.head=b.head)∧a.flow=b.flow)↔a=b:=by
 cases a;cases b
 simp [bB.id,bB.head,bB.flow,and_assoc]
def zN (fv:aj) (G:GH) (d d':List Dat) (p:Prop):Prop:=∀ (G1:GH) (w1:World) (cs cs':List aj),(∀ b o,G b=some o→G1 b=some o)→Hold G1 w1→aU G1 d cs→aU G1 d' cs' →
 qo prog fv [.agg cs.toArray,.agg cs'.toArray] w1 (bC w1 G1 fun u G'=>∃ b,u=.bool b∧(b=true↔p))
theorem aiC (G:GH) (w0:World) (hG:Hold G w0) (A B:List ay) (v u fv:aj) (hv:au G (.sl 11 (A.map ay.dat)) v) (hu:au G (.sl 11 (B.map ay.dat)) u) (hf:∀ (i:Nat) (h1:i < A.length) (h2:i < B.length),zN fv G A[i].dat B[i].dat (A[i]=B[i])) :
  Calls prog 100 #[v,u,fv] w0 (bC w0 G fun r G'=>∃ b,r=.bool b∧(b=true↔A=B)):=by
 obtain ⟨vA,vc,rfl,hc1,hc2,hg⟩:=hv.slice;obtain ⟨uA,uc,rfl,hd1,hd2,hh⟩:=hu.slice;have hml:maxLen=9223372036854775807:=rfl;(iterate 2 rw [bM] at *);refine eN [(0,_),(1,_),(2,_)] func100 rfl ntmps100 rfl rfl hG ?_;refine goB 11 ?_ ?_
 ·intro jX
  refine aP 3 ?_;exact ⟨false,rfl,by simp only [qZ,false_iff];exact fun e=>absurd (aB List.length e) (by omega)⟩
 intro jX
 refine ak 8 ?_;intro a H;refine eH (ι:=Nat × GH) (Tc:=[(1,_),(2,_),(15,_),(16,_)]) (Lc:=[]) (fun gh=>[(17,vi gh.1)]) (fun gh=>[]) (fun gh=>gh.2) (fun gh=>gh.1≤A.length∧A.take gh.1=B.take gh.1∧(∀ b o,G b=some o→gh.2 b=some o)) (fun gh=>A.length - gh.1) ((0,G)) sB ?_ ?_
 ·exact ⟨by omega,rfl,fun _ _ h=>h⟩
 clear H;rintro ⟨k,g⟩ a w hI H;dsimp only at hI H;obtain ⟨hk,hsame,hgm⟩:=hI;dsimp only [lca,bG] at H;refine dO 4 H ?_ ?_ <;> clear H
 ·intro qI
  have hk2:k < A.length:=by omega
  have hk3:k < B.length:=by omega
  obtain ⟨b1,o1,cs1,rfl,yX,mH,hr1⟩:=hg k A[k].dat (by simp [hk2]);obtain ⟨pA,pn,pc,dA,dn,dc,yA,yn,yc,fA,fn,fc,rA,rn,rc,rfl,-⟩:=hr1.item;obtain ⟨b2,o2,cs2,rfl,yY,hrow2,hr2⟩:=hh k B[k].dat (by simp [hk3]);obtain ⟨Io,KI,pc2,Gx,Jl,GA,Lm,LC,LB,GL,GZ,GN,rA2,rn2,rc2,rfl,-⟩:=hr2.item;refine ak 6 ?_;intro a H;refine aR fZ (cs:=_) H wn rfl rfl (fun j v hj=>H.hp.aI (aH hgm (mH j v hj))) rfl ?_;clear H;intro a H;refine dz fZ H wn rfl ?_;clear H;intro b8 a w Al H;refine aD 1 H ?_;clear H;intro a H;refine aX fZ 0 (vs:=[_,_,_,_,_,_,_,_,_,_,_]) _ H wn rfl rfl rfl rfl rfl rfl rfl rfl ?_;clear H;intro w H;dsimp only [List.set,setRow] at H;refine aD 5 H ?_;clear H;intro a H;refine aR fZ (cs:=_) H wn rfl rfl (fun j v hj=>H.hp.aI (aH hgm (hrow2 j v hj))) rfl ?_;clear H;intro a H;refine dz fZ H wn rfl ?_;clear H;intro b9 a w tC H;refine aX fZ 0 (vs:=[_,_,_,_,_,_,_,_,_,_,_]) _ H wn rfl rfl rfl rfl rfl rfl rfl rfl ?_;clear H;intro w H;dsimp only [List.set,setRow] at H;refine aD 3 H ?_;clear H;intro a H;refine aR fZ (cs:=[_,_,_,_,_,_,_,_,_,_,_]) H wn rfl rfl (H.hp.bO 1 rfl rfl) rfl ?_;clear H;intro a H;refine aR fZ (cs:=[_,_,_,_,_,_,_,_,_,_,_]) H wn rfl rfl (H.hp.bO 0 rfl rfl) rfl ?_;clear H;intro a H;refine ji H wn rfl rfl (hf k hk2 hk3 _ _ _ _ hgm H.ro (hr1.mono hgm) (hr2.mono hgm)) rfl ?_;clear H;rintro v29 xu a w ⟨Mr,rfl,vE⟩ xK H;refine iR 2 H ?_ ?_ <;> clear H
  ·intro kR
   refine aP 3 ?_;exact ⟨false,rfl,by simp only [qZ,false_iff];rintro rfl;exact absurd (vE.2 rfl) (by simpa using kR)⟩
  intro kR
  try have p30:=dF kR
  refine ak 4 ?_;intro a H;refine aC ?_;refine cB ((k+1,xu)) (by exact (H.dY (Pl:=[_,_]) (dJ:=[]) [] (by decide) rfl).sub ⟨rfl,rfl,rfl,rfl,rfl,bq⟩) ?_ ?_
  ·(try dsimp only);exact ⟨by omega,by rw [fP hk2,fP hk3,hsame,vE.1 (by simpa using kR)],fun b o h=>xK b o (hgm b o h)⟩
  first|omega|(dsimp only;omega)
 intro qI
 refine aP 4 ?_;exact ⟨true,rfl,by rw [fJ (by omega),fJ (by omega)] at hsame;simpa using hsame⟩
theorem aiD (G:GH) (w0:World) (hG:Hold G w0) (A B:List aV) (v u fv:aj) (hv:au G (.sl 6 (A.map aV.dat)) v) (hu:au G (.sl 6 (B.map aV.dat)) u) (hf:∀ (i:Nat) (h1:i < A.length) (h2:i < B.length),zN fv G A[i].dat B[i].dat (A[i]=B[i])) :
  Calls prog 166 #[v,u,fv] w0 (bC w0 G fun r G'=>∃ b,r=.bool b∧(b=true↔A=B)):=by
 obtain ⟨vA,vc,rfl,hc1,hc2,hg⟩:=hv.slice;obtain ⟨uA,uc,rfl,hd1,hd2,hh⟩:=hu.slice;have hml:maxLen=9223372036854775807:=rfl;(iterate 2 rw [bM] at *);refine eN [(0,_),(1,_),(2,_)] func166 rfl ntmps166 rfl rfl hG ?_;refine goB 11 ?_ ?_
 ·intro jX
  refine aP 3 ?_;exact ⟨false,rfl,by simp only [qZ,false_iff];exact fun e=>absurd (aB List.length e) (by omega)⟩
 intro jX
 refine ak 8 ?_;intro a H;refine eH (ι:=Nat × GH) (Tc:=[(1,_),(2,_),(15,_),(16,_)]) (Lc:=[]) (fun gh=>[(17,vi gh.1)]) (fun gh=>[]) (fun gh=>gh.2) (fun gh=>gh.1≤A.length∧A.take gh.1=B.take gh.1∧(∀ b o,G b=some o→gh.2 b=some o)) (fun gh=>A.length - gh.1) ((0,G)) sB ?_ ?_
 ·exact ⟨by omega,rfl,fun _ _ h=>h⟩
 clear H;rintro ⟨k,g⟩ a w hI H;dsimp only at hI H;obtain ⟨hk,hsame,hgm⟩:=hI;dsimp only [lca,bG] at H;refine dO 4 H ?_ ?_ <;> clear H
 ·intro qI
  have hk2:k < A.length:=by omega
  have hk3:k < B.length:=by omega
  obtain ⟨b1,o1,cs1,rfl,yX,mH,hr1⟩:=hg k A[k].dat (by simp [hk2]);obtain ⟨pA,pn,pc,dA,dn,dc,yA,yn,yc,fA,fn,fc,rfl,-⟩:=hr1.row;obtain ⟨b2,o2,cs2,rfl,yY,hrow2,hr2⟩:=hh k B[k].dat (by simp [hk3]);obtain ⟨Io,KI,pc2,Gx,Jl,GA,Lm,LC,LB,GL,GZ,GN,rfl,-⟩:=hr2.row;refine ak 6 ?_;intro a H;refine aR jI (cs:=_) H wn rfl rfl (fun j v hj=>H.hp.aI (aH hgm (mH j v hj))) rfl ?_;clear H;intro a H;refine dz jI H wn rfl ?_;clear H;intro b8 a w Al H;refine aD 1 H ?_;clear H;intro a H;refine aX jI 0 (vs:=[_,_,_,_,_,_]) _ H wn rfl rfl rfl rfl rfl rfl rfl rfl ?_;clear H;intro w H;dsimp only [List.set,setRow] at H;refine aD 5 H ?_;clear H;intro a H;refine aR jI (cs:=_) H wn rfl rfl (fun j v hj=>H.hp.aI (aH hgm (hrow2 j v hj))) rfl ?_;clear H;intro a H;refine dz jI H wn rfl ?_;clear H;intro b9 a w tC H;refine aX jI 0 (vs:=[_,_,_,_,_,_]) _ H wn rfl rfl rfl rfl rfl rfl rfl rfl ?_;clear H;intro w H;dsimp only [List.set,setRow] at H;refine aD 3 H ?_;clear H;intro a H;refine aR jI (cs:=[_,_,_,_,_,_]) H wn rfl rfl (H.hp.bO 1 rfl rfl) rfl ?_;clear H;intro a H;refine aR jI (cs:=[_,_,_,_,_,_]) H wn rfl rfl (H.hp.bO 0 rfl rfl) rfl ?_;clear H;intro a H;refine ji H wn rfl rfl (hf k hk2 hk3 _ _ _ _ hgm H.ro (hr1.mono hgm) (hr2.mono hgm)) rfl ?_;clear H;rintro v29 xu a w ⟨Mr,rfl,vE⟩ xK H;refine iR 2 H ?_ ?_ <;> clear H
  ·intro kR
   refine aP 3 ?_;exact ⟨false,rfl,by simp only [qZ,false_iff];rintro rfl;exact absurd (vE.2 rfl) (by simpa using kR)⟩
  intro kR
  try have p30:=dF kR
  refine ak 4 ?_;intro a H;refine aC ?_;refine cB ((k+1,xu)) (by exact (H.dY (Pl:=[_,_]) (dJ:=[]) [] (by decide) rfl).sub ⟨rfl,rfl,rfl,rfl,rfl,bq⟩) ?_ ?_
  ·(try dsimp only);exact ⟨by omega,by rw [fP hk2,fP hk3,hsame,vE.1 (by simpa using kR)],fun b o h=>xK b o (hgm b o h)⟩
  first|omega|(dsimp only;omega)
 intro qI
 refine aP 4 ?_;exact ⟨true,rfl,by rw [fJ (by omega),fJ (by omega)] at hsame;simpa using hsame⟩
theorem aiB (G:GH) (w0:World) (hG:Hold G w0) (A B:List bB) (v u fv:aj) (hv:au G (.sl 7 (A.map bB.dat)) v) (hu:au G (.sl 7 (B.map bB.dat)) u) (hf:∀ (i:Nat) (h1:i < A.length) (h2:i < B.length),zN fv G A[i].dat B[i].dat (A[i]=B[i])) :
  Calls prog 216 #[v,u,fv] w0 (bC w0 G fun r G'=>∃ b,r=.bool b∧(b=true↔A=B)):=by
 obtain ⟨vA,vc,rfl,hc1,hc2,hg⟩:=hv.slice;obtain ⟨uA,uc,rfl,hd1,hd2,hh⟩:=hu.slice;have hml:maxLen=9223372036854775807:=rfl;(iterate 2 rw [bM] at *);refine eN [(0,_),(1,_),(2,_)] func216 rfl ntmps216 rfl rfl hG ?_;refine goB 11 ?_ ?_
 ·intro jX
  refine aP 3 ?_;exact ⟨false,rfl,by simp only [qZ,false_iff];exact fun e=>absurd (aB List.length e) (by omega)⟩
 intro jX
 refine ak 8 ?_;intro a H;refine eH (ι:=Nat × GH) (Tc:=[(1,_),(2,_),(15,_),(16,_)]) (Lc:=[]) (fun gh=>[(17,vi gh.1)]) (fun gh=>[]) (fun gh=>gh.2) (fun gh=>gh.1≤A.length∧A.take gh.1=B.take gh.1∧(∀ b o,G b=some o→gh.2 b=some o)) (fun gh=>A.length - gh.1) ((0,G)) sB ?_ ?_
 ·exact ⟨by omega,rfl,fun _ _ h=>h⟩
 clear H;rintro ⟨k,g⟩ a w hI H;dsimp only at hI H;obtain ⟨hk,hsame,hgm⟩:=hI;dsimp only [lca,bG] at H;refine dO 4 H ?_ ?_ <;> clear H
 ·intro qI
  have hk2:k < A.length:=by omega
  have hk3:k < B.length:=by omega
  obtain ⟨b1,o1,cs1,rfl,yX,mH,hr1⟩:=hg k A[k].dat (by simp [hk2]);obtain ⟨pA,pn,pc,dA,dn,dc,yA,yn,yc,fA,fn,fc,rfl,-⟩:=hr1.cell;obtain ⟨b2,o2,cs2,rfl,yY,hrow2,hr2⟩:=hh k B[k].dat (by simp [hk3]);obtain ⟨Io,KI,pc2,Gx,Jl,GA,Lm,LC,LB,GL,GZ,GN,rfl,-⟩:=hr2.cell;refine ak 6 ?_;intro a H;refine aR jO (cs:=_) H wn rfl rfl (fun j v hj=>H.hp.aI (aH hgm (mH j v hj))) rfl ?_;clear H;intro a H;refine dz jO H wn rfl ?_;clear H;intro b8 a w Al H;refine aD 1 H ?_;clear H;intro a H;refine aX jO 0 (vs:=[_,_,_,_,_,_,_]) _ H wn rfl rfl rfl rfl rfl rfl rfl rfl ?_;clear H;intro w H;dsimp only [List.set,setRow] at H;refine aD 5 H ?_;clear H;intro a H;refine aR jO (cs:=_) H wn rfl rfl (fun j v hj=>H.hp.aI (aH hgm (hrow2 j v hj))) rfl ?_;clear H;intro a H;refine dz jO H wn rfl ?_;clear H;intro b9 a w tC H;refine aX jO 0 (vs:=[_,_,_,_,_,_,_]) _ H wn rfl rfl rfl rfl rfl rfl rfl rfl ?_;clear H;intro w H;dsimp only [List.set,setRow] at H;refine aD 3 H ?_;clear H;intro a H;refine aR jO (cs:=[_,_,_,_,_,_,_]) H wn rfl rfl (H.hp.bO 1 rfl rfl) rfl ?_;clear H;intro a H;refine aR jO (cs:=[_,_,_,_,_,_,_]) H wn rfl rfl (H.hp.bO 0 rfl rfl) rfl ?_;clear H;intro a H;refine ji H wn rfl rfl (hf k hk2 hk3 _ _ _ _ hgm H.ro (hr1.mono hgm) (hr2.mono hgm)) rfl ?_;clear H;rintro v29 xu a w ⟨Mr,rfl,vE⟩ xK H;refine iR 2 H ?_ ?_ <;> clear H
  ·intro kR
   refine aP 3 ?_;exact ⟨false,rfl,by simp only [qZ,false_iff];rintro rfl;exact absurd (vE.2 rfl) (by simpa using kR)⟩
  intro kR
  try have p30:=dF kR
  refine ak 4 ?_;intro a H;refine aC ?_;refine cB ((k+1,xu)) (by exact (H.dY (Pl:=[_,_]) (dJ:=[]) [] (by decide) rfl).sub ⟨rfl,rfl,rfl,rfl,rfl,bq⟩) ?_ ?_
  ·(try dsimp only);exact ⟨by omega,by rw [fP hk2,fP hk3,hsame,vE.1 (by simpa using kR)],fun b o h=>xK b o (hgm b o h)⟩
  first|omega|(dsimp only;omega)
 intro qI
 refine aP 4 ?_;exact ⟨true,rfl,by rw [fJ (by omega),fJ (by omega)] at hsame;simpa using hsame⟩
def DZ (n:Nat):Prop:=∀ (G:GH) (w0:World),Hold G w0→∀ (A B:List ay) (v u:aj),au G (.sl 11 (A.map ay.dat)) v→au G (.sl 11 (B.map ay.dat)) u→bZ A < n →
 Calls prog 51 #[v,u] w0 (bC w0 G fun r G'=>∃ b,r=.bool b∧(b=true↔A=B))
theorem aiz {n:Nat} (ih:DZ n) (G:GH) (x y:bB) (hz:bZ x.flow < n):zN (.func (.func 217) #[] #[]) G x.dat y.dat (x=y):=by
 intro G1 w0 cs cs' hm hG h1 h2;refine iM (caps:=[]) ahn ?_;obtain ⟨pA,pn,pc,dA,dn,dc,yA,yn,yc,fA,fn,fc,rfl,JR,hf1⟩:=h1.cell;obtain ⟨Io,KI,pc2,Gx,Jl,GA,Lm,LC,LB,GL,GZ,GN,rfl,EG,hf2⟩:=h2.cell;have he:=bB.eq_iff x y;refine eN [(0,_),(1,_)] func217 rfl ntmps217 rfl rfl hG ?_;refine ak 1 ?_;intro a H;refine dP (cs:=[_,_,_,_,_,_,_]) H wn rfl rfl rfl ?_;clear H;intro b2 a w hb2 H;refine dP (cs:=[_,_,_,_,_,_,_]) H wn rfl rfl rfl ?_;clear H;intro b3 a w hb3 H;refine kJ 9 10 H ?_ ?_ <;> clear H
 ·intro h10
  try have gX:=dT h10
  refine ak 1 ?_;intro a H;refine aR dw (cs:=[_,_,_,_,_]) H (wg H rfl rfl h10) rfl rfl (H.hp.bO 1 rfl rfl) rfl ?_;clear H;refine ak 1 ?_;intro a H;refine aR dw (cs:=[_,_,_,_,_]) H (wg H rfl rfl h10) rfl rfl (H.hp.bO 0 rfl rfl) rfl ?_;clear H;intro a H;refine s_call GI H (wg H rfl rfl h10) rfl (GK _ _ H.ro x.head y.head _ _ _ _ _ _ JR EG) rfl ?_;clear H;rintro vH GH a w rfl Ap H;refine kJ 2 17 H ?_ ?_ <;> clear H
  ·intro jr
   try have jH:=dT jr
   refine ak 4 ?_;intro a H;refine s_call QW H (wg H rfl rfl jr) rfl (ih _ _ H.ro x.flow y.flow _ _ (hf1.mono Ap) (hf2.mono Ap) hz) rfl ?_;clear H;rintro vF GF a w ⟨bF,rfl,YX⟩ NG H;refine fu 3 H ?_;exact ⟨_,rfl,by rw [← he];simp_all⟩
  intro jr
  try have jH:=dF jr
  refine aP 8 ?_;exact ⟨_,rfl,by rw [← he];simp_all⟩
 intro h10
 try have gX:=dF h10
 refine aP 15 ?_;exact ⟨_,rfl,by rw [← he];simp_all⟩
theorem aiJ {n:Nat} (ih:DZ n) (hn:n≤4294967297) (G:GH) (x y:aV) (hz:iI x.cells < n):zN (.func (.func 167) #[] #[]) G x.dat y.dat (x=y):=by
 intro G1 w0 cs cs' hm hG h1 h2;refine iM (caps:=[]) agJ ?_;obtain ⟨pA,pn,pc,dA,dn,dc,yA,yn,yc,fA,fn,fc,rfl,JR,hf1⟩:=h1.row;obtain ⟨Io,KI,pc2,Gx,Jl,GA,Lm,LC,LB,GL,GZ,GN,rfl,EG,hf2⟩:=h2.row;have he:=aV.eq_iff x y;refine eN [(0,_),(1,_)] func167 rfl ntmps167 rfl rfl hG ?_;refine ak 1 ?_;intro a H;refine dP (cs:=[_,_,_,_,_,_]) H wn rfl rfl rfl ?_;clear H;intro b2 a w hb2 H;refine dP (cs:=[_,_,_,_,_,_]) H wn rfl rfl rfl ?_;clear H;intro b3 a w hb3 H;refine aD 4 H ?_;clear H;intro a H;refine aR dw (cs:=[_,_,_,_,_]) H wn rfl rfl (H.hp.bO 1 rfl rfl) rfl ?_;clear H;refine ak 1 ?_;intro a H;refine aR dw (cs:=[_,_,_,_,_]) H wn rfl rfl (H.hp.bO 0 rfl rfl) rfl ?_;clear H;intro a H;refine s_call GI H wn rfl (GK _ _ H.ro x.head y.head _ _ _ _ _ _ JR EG) rfl ?_;clear H;rintro vH GH a w rfl Ap H;refine kJ 1 10 H ?_ ?_ <;> clear H
 ·intro h10
  try have gX:=dT h10
  refine ak 4 ?_;intro a H;refine s_call ahm H (wg H rfl rfl h10) rfl (aiB _ _ H.ro x.cells y.cells _ _ _ (hf1.mono Ap) (hf2.mono Ap) (fun i h1 h2=>aiz ih _ _ _ (by have:=LD h1;omega))) rfl ?_;clear H;rintro vF GF a w ⟨bF,rfl,YX⟩ NG H;refine fu 3 H ?_;exact ⟨_,rfl,by rw [← he];simp_all⟩
 intro h10
 try have gX:=dF h10
 refine aP 8 ?_;exact ⟨_,rfl,by rw [← he];simp_all⟩
theorem aiE {n:Nat} (ih:DZ n) (hn:n≤4294967297) (G:GH) (w0:World) (hG:Hold G w0) (x y:ay) (cs cs':List aj) (h1:aU G x.dat cs) (h2:aU G y.dat cs') (hz:bZ x.flow < n) (hr:gH x.rows < n) :
  Calls prog 101 #[.agg cs.toArray,.agg cs'.toArray] w0 (bC w0 G fun u G'=>∃ b,u=.bool b∧(b=true↔x=y)):=by
 obtain ⟨pA,pn,pc,dA,dn,dc,yA,yn,yc,fA,fn,fc,rA,rn,rc,rfl,JR,hf1,hw1⟩:=h1.item;obtain ⟨Io,KI,pc2,Gx,Jl,GA,Lm,LC,LB,GL,GZ,GN,rA2,rn2,rc2,rfl,EG,hf2,hw2⟩:=h2.item;have he:=ay.eq_iff x y;have hb:=bytes_beq x.text y.text;refine eN [(0,_),(1,_)] func101 rfl ntmps101 rfl rfl hG ?_;refine ak 1 ?_;intro a H;refine dP (cs:=[_,_,_,_,_,_,_,_,_,_,_]) H wn rfl rfl rfl ?_;clear H;intro b2 a w hb2 H;refine dP (cs:=[_,_,_,_,_,_,_,_,_,_,_]) H wn rfl rfl rfl ?_;clear H;intro b3 a w hb3 H;refine pU 9 10 H ?_ ?_ <;> clear H
 ·intro gX
  refine lU 7 17 ?_ ?_
  ·intro jH
   refine jM 7 24 ?_ ?_
   ·intro fB
    try have jq:=dT fB
    refine ak 4 ?_;intro a H;refine AO H (wg H rfl rfl fB) rfl rfl rfl ?_;clear H;refine jM 2 31 ?_ ?_
    ·intro h31
     try have p31:=dT h31
     refine ak 1 ?_;intro a H;refine aR dw (cs:=[_,_,_,_,_]) H (wg H rfl rfl h31) rfl rfl (H.hp.bO 1 rfl rfl) rfl ?_;clear H;refine ak 1 ?_;intro a H;refine aR dw (cs:=[_,_,_,_,_]) H (wg H rfl rfl h31) rfl rfl (H.hp.bO 0 rfl rfl) rfl ?_;clear H;intro a H;refine s_call GI H (wg H rfl rfl h31) rfl (GK _ _ H.ro x.head y.head _ _ _ _ _ _ JR EG) rfl ?_;clear H;rintro vH GH a w rfl Ap H;refine kJ 2 38 H ?_ ?_ <;> clear H
     ·intro mG
      try have p38:=dT mG
      refine ak 4 ?_;intro a H;refine s_call QW H (wg H rfl rfl mG) rfl (ih _ _ H.ro x.flow y.flow _ _ (hf1.mono Ap) (hf2.mono Ap) hz) rfl ?_;clear H;rintro vF GF a w ⟨bF,rfl,YX⟩ NG H;refine kJ 2 45 H ?_ ?_ <;> clear H
      ·intro h45
       try have p45:=dT h45
       refine ak 4 ?_;intro a H;refine s_call agI H (wg H rfl rfl h45) rfl (aiD _ _ H.ro x.rows y.rows _ _ _ ((hw1.mono Ap).mono NG) ((hw2.mono Ap).mono NG) (fun i h1 h2=>aiJ ih hn _ _ _ (by have:=LG h1;omega))) rfl ?_;clear H;rintro vW GW a w ⟨bW,rfl,hbW⟩ hmW H;refine fu 3 H ?_;exact ⟨_,rfl,by rw [← he];simp_all⟩
      intro h45
      try have p45:=dF h45
      refine aP 8 ?_;exact ⟨_,rfl,by rw [← he];simp_all⟩
     intro mG
     try have p38:=dF mG
     refine aP 15 ?_;exact ⟨_,rfl,by rw [← he];simp_all⟩
    intro h31
    try have p31:=dF h31
    refine aP 22 ?_;exact ⟨_,rfl,by rw [← he];simp_all⟩
   intro fB
   try have jq:=dF fB
   refine aP 29 ?_;exact ⟨_,rfl,by rw [← he];simp_all⟩
  intro jH
  refine aP 36 ?_;exact ⟨_,rfl,by rw [← he];simp_all⟩
 intro gX
 refine aP 43 ?_;exact ⟨_,rfl,by rw [← he];simp_all⟩
theorem aiF {n:Nat} (ih:DZ n) (hn:n≤4294967297) (G:GH) (x y:ay) (hz:bZ x.flow < n) (hr:gH x.rows < n):zN (.func (.func 101) #[] #[]) G x.dat y.dat (x=y):=by
 intro G1 w0 cs cs' hm hG h1 h2;exact iM (caps:=[]) afO (aiE ih hn G1 w0 hG x y cs cs' h1 h2 hz hr)
theorem aiM {n:Nat} (ih:DZ n) (hn:n≤4294967297):DZ (n+1):=by
 intro G w0 hG A B v u hv hu hz;refine eN [(0,_),(1,_)] func51 rfl ntmps51 rfl rfl hG ?_;refine ak 6 ?_;intro a H;refine s_call afN H wn rfl (aiC _ _ H.ro A B _ _ _ hv hu (fun i h1 h2=>aiF ih hn _ _ _ (by have:=IL h1;omega) (by have:=IL h1;omega))) rfl ?_;clear H;rintro v7 G7 a w ⟨b7,rfl,vG⟩ wL H;refine fu 2 H ?_;exact ⟨_,rfl,vG⟩
theorem X9:∀ n:Nat,n≤4294967298→DZ n
 | 0,_=>fun _ _ _ _ _ _ _ _ _ h=>absurd h (by omega)
 | n+1,hn=>aiM (X9 n (by omega)) (by omega)
theorem aja (G:GH) (w0:World) (hG:Hold G w0) (A B:List ay) (v u:aj) (hv:au G (.sl 11 (A.map ay.dat)) v) (hu:au G (.sl 11 (B.map ay.dat)) u) (hz:bZ A≤4294967296) :
  Calls prog 51 #[v,u] w0 (bC w0 G fun r G'=>∃ b,r=.bool b∧(b=true↔A=B)):=X9 4294967298 (by omega) G w0 hG A B v u hv hu (by omega)
end
section
open Go.RowKit
def jB (xs:Array aj) (o:Nat × Nat):Option (Int × Int × List UInt8):=match o.2 with
 | 0=>(kI xs o.1).map fun n=>(n,0,[])
 | 1=>match xs[o.1]? with|some (.string s)=>some (0,0,s.toList)|_=>none
 | 2=>match kI xs o.1,kI xs (o.1+1) with|some a,some b=>some (a,b,[])|_,_=>none
 | 3=>match xs[o.1]? with|some (.bool b)=>some (if b=true then 1 else 0,0,[])|_=>none
 | _=>none
def aaR (P:Program) (t:TypeId):Bool:=!P.stoodInHeld t && decide ((P.fieldsOf t).toList.map (·.offset)=[0,1]) && ((P.fieldsOf t).toList.all fun f=>decide (f.name ≠ "_") && P.plainKey f.type && TN (P.underlying f.type)) && decide (P.cellsOf t=2) && (P.info? t).isSome
def xO (P:Program) (t:TypeId):Nat:=match P.underlying t with|some (.int .i64)=>0|some .string=>1|some (.struct _)=>2|some .bool=>3|_=>4
def Us (P:Program) (t:TypeId):Bool:=match xO P t with|0=>P.plainKey t|1=>P.plainKey t|2=>aaR P t|3=>P.plainKey t|_=>false
structure IU (P:Program) (t:TypeId) (wR:List (Nat × Nat)):Prop where
 und:P.underlying t=some (.struct (P.fieldsOf t))
 held:P.stoodInHeld t=false
 guard:P.eqGuardType P.depth t=false
 C8:(P.fieldsOf t).toList.map (fun f=>(f.offset,xO P f.type))=wR
 ok:(P.fieldsOf t).toList.all (fun f=>decide (f.name ≠ "_") && Us P f.type)=true
theorem arI {P:Program} {t:TypeId} {fs:Array Field} (h:P.underlying t=some (.struct fs)):P.underlying t=some (.struct (P.fieldsOf t)):=by
 rw [h]
 simp [Program.fieldsOf,h]
theorem abE {P:Program} (w:World) {t:TypeId} {fs:Array Field} (hu:P.underlying t=some (.struct fs)) {i:TypeInfo} (hi:P.info? t=some i) (hc:P.cellsOf t=2) (xs:Array aj) (off:Nat):(part t xs off).run P w=.ok (.agg (xs.extract off (off+2))) w:=by
 unfold part
 simp [isAgg,dS,run_underlying hu,run_sizeOf w hi,hc]
theorem M5 {xs:Array aj} {o:Nat} {n:Int} (h:kI xs o=some n):xs[o]?=some (.int .i64 n):=by
 unfold kI at h
 split at h
 ·rename_i hx;cases h;exact hx
 ·cases h
theorem YB {xs:Array aj} {off:Nat} {a b:Int} (h1:kI xs off=some a) (h2:kI xs (off+1)=some b):kI (xs.extract off (off+2)) 0=some a∧kI (xs.extract off (off+2)) 1=some b:=by
 have e1:=M5 h1
 have e2:=M5 h2
 have hl:off+1 < xs.size:=(Array.getElem?_eq_some_iff.1 e2).1
 constructor
 ·unfold kI
  rw [Array.getElem?_extract,av (by omega),wu,e1]
 ·unfold kI
  rw [Array.getElem?_extract,av (by omega),e2]
theorem abB {P:Program} {w:World} {d:Nat} {xs ys:Array aj}:∀ fs:List Field,fs.all (fun f=>decide (f.name ≠ "_") && Us P f.type)=true →
  (fs.map (fun f=>(f.offset,xO P f.type))).all (fun o=>(jB xs o).isSome && (jB ys o).isSome)=true→(Op.eqFields (d+2) xs ys fs).run P w=.ok ((fs.map (fun f=>(f.offset,xO P f.type))).all fun o=>jB xs o == jB ys o) w
 | [],_,_=>by simp [Op.eqFields]
 | f :: fs,h1,h2=>by
  simp only [List.all_cons,mD,lS,eZ] at h1 h2
  obtain ⟨⟨hn,hk⟩,h1⟩:=h1
  obtain ⟨⟨hx,hy⟩,h2⟩:=h2
  have ih:=abB (w:=w) (d:=d) fs (by simpa using h1) h2
  have fin:∀ (x y:aj) (r:Bool),(part f.type xs f.offset).run P w=.ok x w→(part f.type ys f.offset).run P w=.ok y w→(Op.equalIn (d+2) f.type x y).run P w=.ok r w→(jB xs (f.offset,xO P f.type) == jB ys (f.offset,xO P f.type))=r →
    (Op.eqFields (d+2) xs ys (f :: fs)).run P w=.ok (((f :: fs).map (fun f=>(f.offset,xO P f.type))).all fun o=>jB xs o == jB ys o) w:=by
   intro x y r p1 p2 p3 p4
   simp only [Op.eqFields,hn,ne_eq,not_false_eq_true,if_true,dS,p1,p2,lQ,p3,eZ,List.all_cons,p4]
   cases r with
   | true=>simp [ih,List.all_map]
   | false=>simp
  unfold Us at hk
  rcases hkd:xO P f.type with _|_|_|_|n
  ·rw [hkd] at hk hx hy
   have hu:P.underlying f.type=some (.int .i64):=by unfold xO at hkd;split at hkd <;> first|assumption|cases hkd
   obtain ⟨m,hm⟩:∃ m,kI xs f.offset=some m:=by cases h:kI xs f.offset with|some m=>exact ⟨m,rfl⟩|none=>simp [jB,h] at hx
   obtain ⟨m2,hm2⟩:∃ m,kI ys f.offset=some m:=by cases h:kI ys f.offset with|some m=>exact ⟨m,rfl⟩|none=>simp [jB,h] at hy
   refine fin _ _ _ (run_part_plain w hk (M5 hm)) (run_part_plain w hk (M5 hm2)) (run_equalIn_int w (d+1) f.type .i64 .i64 m m2 hu) ?_
   rw [hkd,mF]
   simp [jB,hm,hm2]
  ·rw [hkd] at hk hx hy
   have hu:P.underlying f.type=some .string:=by unfold xO at hkd;split at hkd <;> first|assumption|cases hkd
   obtain ⟨m,hm⟩:∃ m,xs[f.offset]?=some (.string m):=by
    simp only [jB] at hx
    split at hx
    ·rename_i s hs;exact ⟨s,hs⟩
    ·cases hx
   obtain ⟨m2,hm2⟩:∃ m,ys[f.offset]?=some (.string m):=by
    simp only [jB] at hy
    split at hy
    ·rename_i s hs;exact ⟨s,hs⟩
    ·cases hy
   refine fin _ _ _ (run_part_plain w hk hm) (run_part_plain w hk hm2) (run_equalIn_string w (d+1) f.type m m2 hu) ?_
   rw [hkd,mF]
   simp [jB,hm,hm2]
  ·rw [hkd] at hk hx hy
   obtain ⟨gs,hu⟩:∃ gs,P.underlying f.type=some (.struct gs):=by
    unfold xO at hkd
    split at hkd
    ·cases hkd
    ·cases hkd
    ·rename_i gs hg;exact ⟨gs,hg⟩
    ·cases hkd
    ·cases hkd
   simp only [aaR,mD,uh,lS] at hk
   obtain ⟨⟨⟨⟨k1,k2⟩,k3⟩,k4⟩,k5⟩:=hk
   obtain ⟨inf,Zd⟩:=Option.isSome_iff_exists.1 k5
   obtain ⟨a,b,ha,hb⟩:∃ a b,kI xs f.offset=some a∧kI xs (f.offset+1)=some b:=by
    simp only [jB] at hx
    split at hx
    ·rename_i a b h1 h2;exact ⟨a,b,h1,h2⟩
    ·cases hx
   obtain ⟨a',b',ha',hb'⟩:∃ a b,kI ys f.offset=some a∧kI ys (f.offset+1)=some b:=by
    simp only [jB] at hy
    split at hy
    ·rename_i a b h1 h2;exact ⟨a,b,h1,h2⟩
    ·cases hy
   obtain ⟨e1,e2⟩:=YB ha hb
   obtain ⟨e3,e4⟩:=YB ha' hb'
   have hq:=abA (P:=P) (w:=w) (d:=d) (xs:=xs.extract f.offset (f.offset+2)) (ys:=ys.extract f.offset (f.offset+2)) _ (by simpa only [jQ,mD,lS] using k3) (by rw [k2];simp [e1,e2,e3,e4])
   rw [k2] at hq
   refine fin _ _ _ (abE w hu Zd k4 xs f.offset) (abE w hu Zd k4 ys f.offset) ((run_equalIn_struct w (d+1) f.type _ _ (arI hu) k1).trans hq) ?_
   rw [hkd,mF]
   simp [jB,ha,hb,ha',hb',e1,e2,e3,e4]
  ·rw [hkd] at hk hx hy
   have hu:P.underlying f.type=some .bool:=by unfold xO at hkd;split at hkd <;> first|assumption|cases hkd
   obtain ⟨m,hm⟩:∃ m,xs[f.offset]?=some (.bool m):=by
    simp only [jB] at hx
    split at hx
    ·rename_i s hs;exact ⟨s,hs⟩
    ·cases hx
   obtain ⟨m2,hm2⟩:∃ m,ys[f.offset]?=some (.bool m):=by
    simp only [jB] at hy
    split at hy
    ·rename_i s hs;exact ⟨s,hs⟩
    ·cases hy
   refine fin _ _ _ (run_part_plain w hk hm) (run_part_plain w hk hm2) (run_equalIn_bool' w (d+1) f.type m m2 hu) ?_
   rw [hkd,mF]
   cases m <;> cases m2 <;> simp [jB,hm,hm2]
  ·rw [hkd] at hk;cases hk
section
variable {N:Nat} {D:List Deferred} {w0:World} {F:Nat→Prop} {G0 G:GH} {L:List (Nat × Obj)} {T:List (Nat × aj)}
variable {r:Option Nat} {P:Program} {ops:Array Oper} {Q:Exit→Act→World→Prop} {rest:List Oper} {a:Act} {w:World}
variable {d:Nat} {ty:TypeId} {pos:String} {aO:Array Edge} {g:Option (Nat × Bool)}
theorem OQ {t yt:TypeId} {wR:List (Nat × Nat)} (he:IU P t wR) {x y:Operand} {xs ys:Array aj} (H:St N D w0 F G0 G L T a w) (hw:Region.wanted ⟨some d,.binOp .neq t x y yt,ty,pos,aO,g⟩ (yielded ops a.tmps)=true) (hx:ev T x=some (.agg xs)) (hy:ev T y=some (.agg ys))
  (hi:wR.all (fun o=>(jB xs o).isSome && (jB ys o).isSome)=true) (hd:Nat.blt d N=true)
  (k:∀ a',St N D w0 F G0 G L ((d,.bool (!(wR.all fun o=>jB xs o == jB ys o))) :: T) a' w→WL r P ops Q rest a' w):WL r P ops Q (⟨some d,.binOp .neq t x y yt,ty,pos,aO,g⟩ :: rest) a w:=by
 have h1:=abB (P:=P) (w:=w) (d:=9997) (xs:=xs) (ys:=ys) _ he.ok (by rw [he.C8];exact hi)
 rw [he.C8] at h1
 refine fq (v:=.bool (!(wR.all fun o=>jB xs o == jB ys o))) (w':=w) hw rfl ?_ (k _ (H.put hd _ H.hp))
 simp only [execOp,H.ev hx,H.ev hy,dS,run_eqGuard_agg w .neq t x y xs ys he.guard,lQ,run_neq_struct,run_equalIn_struct w 9999 t xs ys he.und he.held,h1]
 rfl
end
end
section
open Go.RowKit
theorem aib:∀ args w,(callFunc 50 args).run prog w=.ok (.enter 50 args) w:=enters func50 rfl (by kernel_rfl)
theorem afT:∀ args w,(callFunc 107 args).run prog w=.ok (.enter 107 args) w:=enters func107 rfl (by kernel_rfl)
theorem afR:∀ args w,(callFunc 105 args).run prog w=.ok (.enter 105 args) w:=enters func105 rfl (by kernel_rfl)
theorem aia:∀ args w,(callFunc 49 args).run prog w=.ok (.enter 49 args) w:=enters func49 rfl (by kernel_rfl)
theorem afS:∀ args w,(callFunc 106 args).run prog w=.ok (.enter 106 args) w:=enters func106 rfl (by kernel_rfl)
theorem Mv (p q:ByteArray):p.toList=q.toList↔p=q:=by
 rw [← bytes_beq,beq_iff_eq]
theorem bX.eq_iff (a b:bX):(a.id=b.id∧a.author=b.author∧a.time=b.time)↔a=b:=by cases a;cases b;simp
theorem iX.eq_iff (a b:iX):(a.fmt=b.fmt∧a.start=b.start∧a.wV=b.wV∧a.restart=b.restart)↔a=b:=by cases a;cases b;simp
theorem fE.eq_iff (a b:fE):(a.id=b.id∧a.parent=b.parent∧a.author=b.author∧a.time=b.time∧a.text=b.text∧a.done=b.done)↔a=b:=by cases a;cases b;simp
theorem iy.eq_iff (a b:iy):(a.name=b.name∧a.value=b.value)↔a=b:=by cases a;cases b;simp
theorem eD.eq_iff (a b:eD):(a.id=b.id∧a.levels=b.levels)↔a=b:=by cases a;cases b;simp
theorem bS.eq_iff (a b:bS):(((((a.id=b.id∧a.kind=b.kind)∧a.name=b.name)∧a.base=b.base)∧a.next=b.next)∧a.props=b.props)↔a=b:=by cases a;cases b;simp [and_assoc]
instance:DecidableEq bX:=fun a b=>decidable_of_iff _ (bX.eq_iff a b)
instance:DecidableEq iX:=fun a b=>decidable_of_iff _ (iX.eq_iff a b)
instance:DecidableEq fE:=fun a b=>decidable_of_iff _ (fE.eq_iff a b)
instance:DecidableEq iy:=fun a b=>decidable_of_iff _ (iy.eq_iff a b)
theorem aiR:IU prog 102 [(0,0),(1,1),(2,0)]:=⟨by kernel_rfl,by kernel_rfl,by kernel_rfl,by kernel_rfl,by kernel_rfl⟩
theorem aiQ:IU prog 96 [(0,0),(1,0),(2,1),(3,0)]:=⟨by kernel_rfl,by kernel_rfl,by kernel_rfl,by kernel_rfl,by kernel_rfl⟩
theorem aiP:IU prog 107 [(0,0),(1,0),(2,1),(3,0),(4,1),(5,3)]:=⟨by kernel_rfl,by kernel_rfl,by kernel_rfl,by kernel_rfl,by kernel_rfl⟩
theorem aiS:IU prog 110 [(0,1),(1,1)]:=⟨by kernel_rfl,by kernel_rfl,by kernel_rfl,by kernel_rfl,by kernel_rfl⟩
theorem aqs (a b:bX):([(0,0),(1,1),(2,0)].all fun o=>jB (bX.cells a).toArray o == jB (bX.cells b).toArray o)=decide (a=b):=by
 rw [mF,decide_eq_true_iff,← bX.eq_iff]
 simp [jB,kI,Mv]
theorem aqr (a b:iX):([(0,0),(1,0),(2,1),(3,0)].all fun o=>jB (iX.cells a).toArray o == jB (iX.cells b).toArray o)=decide (a=b):=by
 rw [mF,decide_eq_true_iff,← iX.eq_iff]
 simp [jB,kI,Mv]
theorem aqp (a b:fE):([(0,0),(1,0),(2,1),(3,0),(4,1),(5,3)].all fun o=>jB (fE.cells a).toArray o == jB (fE.cells b).toArray o)=decide (a=b):=by
 rw [mF,decide_eq_true_iff,← fE.eq_iff]
 cases ha:a.done <;> cases hb:b.done <;> simp [jB,kI,Mv,ha,hb]
theorem aqt (a b:iy):([(0,1),(1,1)].all fun o=>jB (iy.cells a).toArray o == jB (iy.cells b).toArray o)=decide (a=b):=by
 rw [mF,decide_eq_true_iff,← iy.eq_iff]
 simp [jB,kI,Mv]
theorem aiY (G:GH) (w0:World) (hG:Hold G w0) (A B:List bX) (v u:aj) (hv:au G (.sl 3 (A.map bX.dat)) v) (hu:au G (.sl 3 (B.map bX.dat)) u) :
  Calls prog 53 #[v,u] w0 (bC w0 G fun r G'=>r=.bool (decide (A=B))):=by
 obtain ⟨vA,vc,rfl,hc1,hc2,hg⟩:=hv.slice;obtain ⟨uA,uc,rfl,hd1,hd2,hh⟩:=hu.slice;have hml:maxLen=9223372036854775807:=rfl;(iterate 2 rw [bM] at *);refine eN [(0,_),(1,_)] func53 rfl ntmps53 rfl rfl hG ?_;refine goB 11 ?_ ?_
 ·intro gX
  refine aP 3 ?_;exact (dB (iY fun e=>absurd (aB List.length e) (by omega)).symm)
 intro gX
 refine ak 8 ?_;intro a H;refine eH (ι:=Nat × GH) (Tc:=[(0,_),(1,_),(12,_)]) (Lc:=[]) (fun gh=>[(13,vi gh.1)]) (fun gh=>[]) (fun gh=>gh.2) (fun gh=>gh.1≤A.length∧A.take gh.1=B.take gh.1∧(∀ b o,G b=some o→gh.2 b=some o)) (fun gh=>A.length - gh.1) ((0,G)) sB ?_ ?_
 ·exact ⟨by omega,rfl,fun _ _ h=>h⟩
 clear H;rintro ⟨k,g⟩ a w hI H;dsimp only at hI H;obtain ⟨hk,hsame,hgm⟩:=hI;dsimp only [lca,bG] at H;refine dO 4 H ?_ ?_ <;> clear H
 ·intro jX
  have hk2:k < A.length:=by omega
  have hk3:k < B.length:=by omega
  obtain ⟨b1,o1,cs1,rfl,yX,mH,hr1⟩:=hg k A[k].dat (by simp [hk2]);obtain rfl:=KM hr1;obtain ⟨b2,o2,cs2,rfl,yY,hrow2,hr2⟩:=hh k B[k].dat (by simp [hk3]);obtain rfl:=KM hr2;refine ak 8 ?_;intro a H;refine dI hmx [[],[],[0,1],[0,1,2],[],[],[4,5],[4,5,6],(ra 0 8)] [] (by kernel_rfl) [_,_,_,.agg (bX.cells A[k]).toArray,_,_,_,.agg (bX.cells B[k]).toArray,.bool (!decide (A[k]=B[k]))] H (aF (Z0 rfl (Rm rfl)) (Z0 rfl (Rm rfl)) (Z2 0 16 1 17 rfl (Ri sG ou rfl rfl)) ?_ (aF (Z0 rfl (Rm rfl)) (Z0 rfl (Rm rfl)) (Z2 4 20 5 21 rfl (Ri sG ou rfl rfl)) ?_ (bH ?_ cO))) ?_
  ·refine dZ 2 18 rfl rfl fun _ a w G1 hG HT H fin=>?_;refine aR ou (cs:=bX.cells A[k]) H wn rfl rfl (fun j v hj=>H.hp.aI (aH hG (aH hgm (mH j v hj)))) rfl ?_;clear H;intro a H;exact fin H iJ rfl
  ·refine dZ 6 22 rfl rfl fun _ a w G1 hG HT H fin=>?_;refine aR ou (cs:=bX.cells B[k]) H wn rfl rfl (fun j v hj=>H.hp.aI (aH hG (aH hgm (hrow2 j v hj)))) rfl ?_;clear H;intro a H;exact fin H iJ rfl
  ·refine dD 3 19 7 23 rfl rfl fun _ a w G1 hG HT H fin=>?_;refine OQ aiR H wn rfl rfl rfl rfl ?_;clear H;intro a H;exact fin H iJ (aB (fun b=>Value.bool !b) (aqs A[k] B[k]))
  clear H;intro a w G gD H hv;have H:=H.aN (hv 8 24 rfl rfl) rfl;clear hv;refine t0 1 H ?_;clear H;refine goC 0 ?_ ?_
  ·intro fB
   refine aP 3 ?_;exact (dB (iY fun e=>absurd fB (by subst e;simp)).symm)
  intro fB
  try have jq:=dF fB
  have hsm:A[k]=B[k]:=by simpa using fB
  refine ak 4 ?_;intro a H;refine aC ?_;refine cB ((k+1,G)) sB ?_ ?_
  ·(try dsimp only);exact ⟨by omega,by rw [fP hk2,fP hk3,hsame,hsm],fun b o h=>gD b o (hgm b o h)⟩
  first|omega|(dsimp only;omega)
 intro jX
 refine aP 4 ?_;exact (dB (iQ (by rw [fJ (by omega),fJ (by omega)] at hsame;exact hsame)).symm)
theorem aiX (G:GH) (w0:World) (hG:Hold G w0) (A B:List iX) (v u:aj) (hv:au G (.sl 4 (A.map iX.dat)) v) (hu:au G (.sl 4 (B.map iX.dat)) u) :
  Calls prog 50 #[v,u] w0 (bC w0 G fun r G'=>r=.bool (decide (A=B))):=by
 obtain ⟨vA,vc,rfl,hc1,hc2,hg⟩:=hv.slice;obtain ⟨uA,uc,rfl,hd1,hd2,hh⟩:=hu.slice;have hml:maxLen=9223372036854775807:=rfl;(iterate 2 rw [bM] at *);refine eN [(0,_),(1,_)] func50 rfl ntmps50 rfl rfl hG ?_;refine goB 11 ?_ ?_
 ·intro gX
  refine aP 3 ?_;exact (dB (iY fun e=>absurd (aB List.length e) (by omega)).symm)
 intro gX
 refine ak 8 ?_;intro a H;refine eH (ι:=Nat × GH) (Tc:=[(0,_),(1,_),(12,_)]) (Lc:=[]) (fun gh=>[(13,vi gh.1)]) (fun gh=>[]) (fun gh=>gh.2) (fun gh=>gh.1≤A.length∧A.take gh.1=B.take gh.1∧(∀ b o,G b=some o→gh.2 b=some o)) (fun gh=>A.length - gh.1) ((0,G)) sB ?_ ?_
 ·exact ⟨by omega,rfl,fun _ _ h=>h⟩
 clear H;rintro ⟨k,g⟩ a w hI H;dsimp only at hI H;obtain ⟨hk,hsame,hgm⟩:=hI;dsimp only [lca,bG] at H;refine dO 4 H ?_ ?_ <;> clear H
 ·intro jX
  have hk2:k < A.length:=by omega
  have hk3:k < B.length:=by omega
  obtain ⟨b1,o1,cs1,rfl,yX,mH,hr1⟩:=hg k A[k].dat (by simp [hk2]);obtain rfl:=Ud hr1;obtain ⟨b2,o2,cs2,rfl,yY,hrow2,hr2⟩:=hh k B[k].dat (by simp [hk3]);obtain rfl:=Ud hr2;refine ak 8 ?_;intro a H;refine dI hmx [[],[],[0,1],[0,1,2],[],[],[4,5],[4,5,6],(ra 0 8)] [] (by kernel_rfl) [_,_,_,.agg (iX.cells A[k]).toArray,_,_,_,.agg (iX.cells B[k]).toArray,.bool (!decide (A[k]=B[k]))] H (aF (Z0 rfl (Rm rfl)) (Z0 rfl (Rm rfl)) (Z2 0 16 1 17 rfl (Ri FK AY rfl rfl)) ?_ (aF (Z0 rfl (Rm rfl)) (Z0 rfl (Rm rfl)) (Z2 4 20 5 21 rfl (Ri FK AY rfl rfl)) ?_ (bH ?_ cO))) ?_
  ·refine dZ 2 18 rfl rfl fun _ a w G1 hG HT H fin=>?_;refine aR AY (cs:=iX.cells A[k]) H wn rfl rfl (fun j v hj=>H.hp.aI (aH hG (aH hgm (mH j v hj)))) rfl ?_;clear H;intro a H;exact fin H iJ rfl
  ·refine dZ 6 22 rfl rfl fun _ a w G1 hG HT H fin=>?_;refine aR AY (cs:=iX.cells B[k]) H wn rfl rfl (fun j v hj=>H.hp.aI (aH hG (aH hgm (hrow2 j v hj)))) rfl ?_;clear H;intro a H;exact fin H iJ rfl
  ·refine dD 3 19 7 23 rfl rfl fun _ a w G1 hG HT H fin=>?_;refine OQ aiQ H wn rfl rfl rfl rfl ?_;clear H;intro a H;exact fin H iJ (aB (fun b=>Value.bool !b) (aqr A[k] B[k]))
  clear H;intro a w G gD H hv;have H:=H.aN (hv 8 24 rfl rfl) rfl;clear hv;refine t0 1 H ?_;clear H;refine goC 0 ?_ ?_
  ·intro fB
   refine aP 3 ?_;exact (dB (iY fun e=>absurd fB (by subst e;simp)).symm)
  intro fB
  try have jq:=dF fB
  have hsm:A[k]=B[k]:=by simpa using fB
  refine ak 4 ?_;intro a H;refine aC ?_;refine cB ((k+1,G)) sB ?_ ?_
  ·(try dsimp only);exact ⟨by omega,by rw [fP hk2,fP hk3,hsame,hsm],fun b o h=>gD b o (hgm b o h)⟩
  first|omega|(dsimp only;omega)
 intro jX
 refine aP 4 ?_;exact (dB (iQ (by rw [fJ (by omega),fJ (by omega)] at hsame;exact hsame)).symm)
theorem aiW (G:GH) (w0:World) (hG:Hold G w0) (A B:List fE) (v u:aj) (hv:au G (.sl 6 (A.map fE.dat)) v) (hu:au G (.sl 6 (B.map fE.dat)) u) :
  Calls prog 56 #[v,u] w0 (bC w0 G fun r G'=>r=.bool (decide (A=B))):=by
 obtain ⟨vA,vc,rfl,hc1,hc2,hg⟩:=hv.slice;obtain ⟨uA,uc,rfl,hd1,hd2,hh⟩:=hu.slice;have hml:maxLen=9223372036854775807:=rfl;(iterate 2 rw [bM] at *);refine eN [(0,_),(1,_)] func56 rfl ntmps56 rfl rfl hG ?_;refine goB 11 ?_ ?_
 ·intro gX
  refine aP 3 ?_;exact (dB (iY fun e=>absurd (aB List.length e) (by omega)).symm)
 intro gX
 refine ak 8 ?_;intro a H;refine eH (ι:=Nat × GH) (Tc:=[(0,_),(1,_),(12,_)]) (Lc:=[]) (fun gh=>[(13,vi gh.1)]) (fun gh=>[]) (fun gh=>gh.2) (fun gh=>gh.1≤A.length∧A.take gh.1=B.take gh.1∧(∀ b o,G b=some o→gh.2 b=some o)) (fun gh=>A.length - gh.1) ((0,G)) sB ?_ ?_
 ·exact ⟨by omega,rfl,fun _ _ h=>h⟩
 clear H;rintro ⟨k,g⟩ a w hI H;dsimp only at hI H;obtain ⟨hk,hsame,hgm⟩:=hI;dsimp only [lca,bG] at H;refine dO 4 H ?_ ?_ <;> clear H
 ·intro jX
  have hk2:k < A.length:=by omega
  have hk3:k < B.length:=by omega
  obtain ⟨b1,o1,cs1,rfl,yX,mH,hr1⟩:=hg k A[k].dat (by simp [hk2]);obtain rfl:=MI hr1;obtain ⟨b2,o2,cs2,rfl,yY,hrow2,hr2⟩:=hh k B[k].dat (by simp [hk3]);obtain rfl:=MI hr2;refine ak 8 ?_;intro a H;refine dI hmx [[],[],[0,1],[0,1,2],[],[],[4,5],[4,5,6],(ra 0 8)] [] (by kernel_rfl) [_,_,_,.agg (fE.cells A[k]).toArray,_,_,_,.agg (fE.cells B[k]).toArray,.bool (!decide (A[k]=B[k]))] H (aF (Z0 rfl (Rm rfl)) (Z0 rfl (Rm rfl)) (Z2 0 16 1 17 rfl (Ri A9 yg rfl rfl)) ?_ (aF (Z0 rfl (Rm rfl)) (Z0 rfl (Rm rfl)) (Z2 4 20 5 21 rfl (Ri A9 yg rfl rfl)) ?_ (bH ?_ cO))) ?_
  ·refine dZ 2 18 rfl rfl fun _ a w G1 hG HT H fin=>?_;refine aR yg (cs:=fE.cells A[k]) H wn rfl rfl (fun j v hj=>H.hp.aI (aH hG (aH hgm (mH j v hj)))) rfl ?_;clear H;intro a H;exact fin H iJ rfl
  ·refine dZ 6 22 rfl rfl fun _ a w G1 hG HT H fin=>?_;refine aR yg (cs:=fE.cells B[k]) H wn rfl rfl (fun j v hj=>H.hp.aI (aH hG (aH hgm (hrow2 j v hj)))) rfl ?_;clear H;intro a H;exact fin H iJ rfl
  ·refine dD 3 19 7 23 rfl rfl fun _ a w G1 hG HT H fin=>?_;refine OQ aiP H wn rfl rfl rfl rfl ?_;clear H;intro a H;exact fin H iJ (aB (fun b=>Value.bool !b) (aqp A[k] B[k]))
  clear H;intro a w G gD H hv;have H:=H.aN (hv 8 24 rfl rfl) rfl;clear hv;refine t0 1 H ?_;clear H;refine goC 0 ?_ ?_
  ·intro fB
   refine aP 3 ?_;exact (dB (iY fun e=>absurd fB (by subst e;simp)).symm)
  intro fB
  try have jq:=dF fB
  have hsm:A[k]=B[k]:=by simpa using fB
  refine ak 4 ?_;intro a H;refine aC ?_;refine cB ((k+1,G)) sB ?_ ?_
  ·(try dsimp only);exact ⟨by omega,by rw [fP hk2,fP hk3,hsame,hsm],fun b o h=>gD b o (hgm b o h)⟩
  first|omega|(dsimp only;omega)
 intro jX
 refine aP 4 ?_;exact (dB (iQ (by rw [fJ (by omega),fJ (by omega)] at hsame;exact hsame)).symm)
theorem aiZ (G:GH) (w0:World) (hG:Hold G w0) (A B:List iy) (v u:aj) (hv:au G (.sl 2 (A.map iy.dat)) v) (hu:au G (.sl 2 (B.map iy.dat)) u) :
  Calls prog 57 #[v,u] w0 (bC w0 G fun r G'=>r=.bool (decide (A=B))):=by
 obtain ⟨vA,vc,rfl,hc1,hc2,hg⟩:=hv.slice;obtain ⟨uA,uc,rfl,hd1,hd2,hh⟩:=hu.slice;have hml:maxLen=9223372036854775807:=rfl;(iterate 2 rw [bM] at *);refine eN [(0,_),(1,_)] func57 rfl ntmps57 rfl rfl hG ?_;refine goB 11 ?_ ?_
 ·intro gX
  refine aP 3 ?_;exact (dB (iY fun e=>absurd (aB List.length e) (by omega)).symm)
 intro gX
 refine ak 8 ?_;intro a H;refine eH (ι:=Nat × GH) (Tc:=[(0,_),(1,_),(12,_)]) (Lc:=[]) (fun gh=>[(13,vi gh.1)]) (fun gh=>[]) (fun gh=>gh.2) (fun gh=>gh.1≤A.length∧A.take gh.1=B.take gh.1∧(∀ b o,G b=some o→gh.2 b=some o)) (fun gh=>A.length - gh.1) ((0,G)) sB ?_ ?_
 ·exact ⟨by omega,rfl,fun _ _ h=>h⟩
 clear H;rintro ⟨k,g⟩ a w hI H;dsimp only at hI H;obtain ⟨hk,hsame,hgm⟩:=hI;dsimp only [lca,bG] at H;refine dO 4 H ?_ ?_ <;> clear H
 ·intro jX
  have hk2:k < A.length:=by omega
  have hk3:k < B.length:=by omega
  obtain ⟨b1,o1,cs1,rfl,yX,mH,hr1⟩:=hg k A[k].dat (by simp [hk2]);obtain rfl:=Vo hr1;obtain ⟨b2,o2,cs2,rfl,yY,hrow2,hr2⟩:=hh k B[k].dat (by simp [hk3]);obtain rfl:=Vo hr2;refine ak 8 ?_;intro a H;refine dI hmx [[],[],[0,1],[0,1,2],[],[],[4,5],[4,5,6],(ra 0 8)] [] (by kernel_rfl) [_,_,_,.agg (iy.cells A[k]).toArray,_,_,_,.agg (iy.cells B[k]).toArray,.bool (!decide (A[k]=B[k]))] H (aF (Z0 rfl (Rm rfl)) (Z0 rfl (Rm rfl)) (Z2 0 16 1 17 rfl (Ri sH uS rfl rfl)) ?_ (aF (Z0 rfl (Rm rfl)) (Z0 rfl (Rm rfl)) (Z2 4 20 5 21 rfl (Ri sH uS rfl rfl)) ?_ (bH ?_ cO))) ?_
  ·refine dZ 2 18 rfl rfl fun _ a w G1 hG HT H fin=>?_;refine aR uS (cs:=iy.cells A[k]) H wn rfl rfl (fun j v hj=>H.hp.aI (aH hG (aH hgm (mH j v hj)))) rfl ?_;clear H;intro a H;exact fin H iJ rfl
  ·refine dZ 6 22 rfl rfl fun _ a w G1 hG HT H fin=>?_;refine aR uS (cs:=iy.cells B[k]) H wn rfl rfl (fun j v hj=>H.hp.aI (aH hG (aH hgm (hrow2 j v hj)))) rfl ?_;clear H;intro a H;exact fin H iJ rfl
  ·refine dD 3 19 7 23 rfl rfl fun _ a w G1 hG HT H fin=>?_;refine OQ aiS H wn rfl rfl rfl rfl ?_;clear H;intro a H;exact fin H iJ (aB (fun b=>Value.bool !b) (aqt A[k] B[k]))
  clear H;intro a w G gD H hv;have H:=H.aN (hv 8 24 rfl rfl) rfl;clear hv;refine t0 1 H ?_;clear H;refine goC 0 ?_ ?_
  ·intro fB
   refine aP 3 ?_;exact (dB (iY fun e=>absurd fB (by subst e;simp)).symm)
  intro fB
  try have jq:=dF fB
  have hsm:A[k]=B[k]:=by simpa using fB
  refine ak 4 ?_;intro a H;refine aC ?_;refine cB ((k+1,G)) sB ?_ ?_
  ·(try dsimp only);exact ⟨by omega,by rw [fP hk2,fP hk3,hsame,hsm],fun b o h=>gD b o (hgm b o h)⟩
  first|omega|(dsimp only;omega)
 intro jX
 refine aP 4 ?_;exact (dB (iQ (by rw [fJ (by omega),fJ (by omega)] at hsame;exact hsame)).symm)
instance:DecidableEq eD:=fun a b=>decidable_of_iff _ (eD.eq_iff a b)
instance:DecidableEq bS:=fun a b=>decidable_of_iff _ (bS.eq_iff a b)
theorem Oa {G:GH} {x:eD} {cs:List aj} (h:aU G x.dat cs):∃ A n c,cs=[vi x.id,.slice A n c]∧au G (.sl 4 (x.levels.map iX.dat)) (.slice A n c):=by
 obtain ⟨v1,vs,rfl,⟨rfl,-⟩,v2,vs2,rfl,h2,rfl⟩:=h;obtain ⟨A,n,c,rfl⟩:=au.form h2;exact ⟨A,n,c,rfl,h2⟩
theorem O4 {G:GH} {x:bS} {cs:List aj} (h:aU G x.dat cs):∃ A n c,cs=[vi x.id,vi x.kind,.string x.name,vi x.base,vi x.next,.slice A n c]∧au G (.sl 2 (x.props.map aT.dat)) (.slice A n c):=by
 obtain ⟨A,c,h1,h2⟩:=KT h;exact ⟨A,_,c,h1,h2⟩
theorem aiN (G:GH) (w0:World) (hG:Hold G w0) (A B:List eD) (v u fv:aj) (hv:au G (.sl 2 (A.map eD.dat)) v) (hu:au G (.sl 2 (B.map eD.dat)) u) (hf:∀ (i:Nat) (h1:i < A.length) (h2:i < B.length),zN fv G A[i].dat B[i].dat (A[i]=B[i])) :
  Calls prog 55 #[v,u,fv] w0 (bC w0 G fun r G'=>∃ b,r=.bool b∧(b=true↔A=B)):=by
 obtain ⟨vA,vc,rfl,hc1,hc2,hg⟩:=hv.slice;obtain ⟨uA,uc,rfl,hd1,hd2,hh⟩:=hu.slice;have hml:maxLen=9223372036854775807:=rfl;(iterate 2 rw [bM] at *);refine eN [(0,_),(1,_),(2,_)] func55 rfl ntmps55 rfl rfl hG ?_;refine goB 11 ?_ ?_
 ·intro jX
  refine aP 3 ?_;exact ⟨false,rfl,by simp only [qZ,false_iff];exact fun e=>absurd (aB List.length e) (by omega)⟩
 intro jX
 refine ak 8 ?_;intro a H;refine eH (ι:=Nat × GH) (Tc:=[(1,_),(2,_),(15,_),(16,_)]) (Lc:=[]) (fun gh=>[(17,vi gh.1)]) (fun gh=>[]) (fun gh=>gh.2) (fun gh=>gh.1≤A.length∧A.take gh.1=B.take gh.1∧(∀ b o,G b=some o→gh.2 b=some o)) (fun gh=>A.length - gh.1) ((0,G)) sB ?_ ?_
 ·exact ⟨by omega,rfl,fun _ _ h=>h⟩
 clear H;rintro ⟨k,g⟩ a w hI H;dsimp only at hI H;obtain ⟨hk,hsame,hgm⟩:=hI;dsimp only [lca,bG] at H;refine dO 4 H ?_ ?_ <;> clear H
 ·intro qI
  have hk2:k < A.length:=by omega
  have hk3:k < B.length:=by omega
  obtain ⟨b1,o1,cs1,rfl,yX,mH,hr1⟩:=hg k A[k].dat (by simp [hk2]);obtain ⟨pA,pn,pc,rfl,-⟩:=Oa hr1;obtain ⟨b2,o2,cs2,rfl,yY,hrow2,hr2⟩:=hh k B[k].dat (by simp [hk3]);obtain ⟨qA,qn,qc,rfl,-⟩:=Oa hr2;refine ak 6 ?_;intro a H;refine aR sF (cs:=_) H wn rfl rfl (fun j v hj=>H.hp.aI (aH hgm (mH j v hj))) rfl ?_;clear H;intro a H;refine dz sF H wn rfl ?_;clear H;intro b8 a w Al H;refine aD 1 H ?_;clear H;intro a H;refine aX sF 0 (vs:=[_,_]) _ H wn rfl rfl rfl rfl rfl rfl rfl rfl ?_;clear H;intro w H;dsimp only [List.set,setRow] at H;refine aD 5 H ?_;clear H;intro a H;refine aR sF (cs:=_) H wn rfl rfl (fun j v hj=>H.hp.aI (aH hgm (hrow2 j v hj))) rfl ?_;clear H;intro a H;refine dz sF H wn rfl ?_;clear H;intro b9 a w tC H;refine aX sF 0 (vs:=[_,_]) _ H wn rfl rfl rfl rfl rfl rfl rfl rfl ?_;clear H;intro w H;dsimp only [List.set,setRow] at H;refine aD 3 H ?_;clear H;intro a H;refine aR sF (cs:=[_,_]) H wn rfl rfl (H.hp.bO 1 rfl rfl) rfl ?_;clear H;intro a H;refine aR sF (cs:=[_,_]) H wn rfl rfl (H.hp.bO 0 rfl rfl) rfl ?_;clear H;intro a H;refine ji H wn rfl rfl (hf k hk2 hk3 _ _ _ _ hgm H.ro (hr1.mono hgm) (hr2.mono hgm)) rfl ?_;clear H;rintro v29 xu a w ⟨Mr,rfl,vE⟩ xK H;refine iR 2 H ?_ ?_ <;> clear H
  ·intro kR
   refine aP 3 ?_;exact ⟨false,rfl,by simp only [qZ,false_iff];rintro rfl;exact absurd (vE.2 rfl) (by simpa using kR)⟩
  intro kR
  try have p30:=dF kR
  refine ak 4 ?_;intro a H;refine aC ?_;refine cB ((k+1,xu)) (by exact (H.dY (Pl:=[_,_]) (dJ:=[]) [] (by decide) rfl).sub ⟨rfl,rfl,rfl,rfl,rfl,bq⟩) ?_ ?_
  ·(try dsimp only);exact ⟨by omega,by rw [fP hk2,fP hk3,hsame,vE.1 (by simpa using kR)],fun b o h=>xK b o (hgm b o h)⟩
  first|omega|(dsimp only;omega)
 intro qI
 refine aP 4 ?_;exact ⟨true,rfl,by rw [fJ (by omega),fJ (by omega)] at hsame;simpa using hsame⟩
theorem aiO (G:GH) (w0:World) (hG:Hold G w0) (A B:List bS) (v u fv:aj) (hv:au G (.sl 6 (A.map bS.dat)) v) (hu:au G (.sl 6 (B.map bS.dat)) u) (hf:∀ (i:Nat) (h1:i < A.length) (h2:i < B.length),zN fv G A[i].dat B[i].dat (A[i]=B[i])) :
  Calls prog 105 #[v,u,fv] w0 (bC w0 G fun r G'=>∃ b,r=.bool b∧(b=true↔A=B)):=by
 obtain ⟨vA,vc,rfl,hc1,hc2,hg⟩:=hv.slice;obtain ⟨uA,uc,rfl,hd1,hd2,hh⟩:=hu.slice;have hml:maxLen=9223372036854775807:=rfl;(iterate 2 rw [bM] at *);refine eN [(0,_),(1,_),(2,_)] func105 rfl ntmps105 rfl rfl hG ?_;refine goB 11 ?_ ?_
 ·intro jX
  refine aP 3 ?_;exact ⟨false,rfl,by simp only [qZ,false_iff];exact fun e=>absurd (aB List.length e) (by omega)⟩
 intro jX
 refine ak 8 ?_;intro a H;refine eH (ι:=Nat × GH) (Tc:=[(1,_),(2,_),(15,_),(16,_)]) (Lc:=[]) (fun gh=>[(17,vi gh.1)]) (fun gh=>[]) (fun gh=>gh.2) (fun gh=>gh.1≤A.length∧A.take gh.1=B.take gh.1∧(∀ b o,G b=some o→gh.2 b=some o)) (fun gh=>A.length - gh.1) ((0,G)) sB ?_ ?_
 ·exact ⟨by omega,rfl,fun _ _ h=>h⟩
 clear H;rintro ⟨k,g⟩ a w hI H;dsimp only at hI H;obtain ⟨hk,hsame,hgm⟩:=hI;dsimp only [lca,bG] at H;refine dO 4 H ?_ ?_ <;> clear H
 ·intro qI
  have hk2:k < A.length:=by omega
  have hk3:k < B.length:=by omega
  obtain ⟨b1,o1,cs1,rfl,yX,mH,hr1⟩:=hg k A[k].dat (by simp [hk2]);obtain ⟨pA,pn,pc,rfl,-⟩:=O4 hr1;obtain ⟨b2,o2,cs2,rfl,yY,hrow2,hr2⟩:=hh k B[k].dat (by simp [hk3]);obtain ⟨qA,qn,qc,rfl,-⟩:=O4 hr2;refine ak 6 ?_;intro a H;refine aR jD (cs:=_) H wn rfl rfl (fun j v hj=>H.hp.aI (aH hgm (mH j v hj))) rfl ?_;clear H;intro a H;refine dz jD H wn rfl ?_;clear H;intro b8 a w Al H;refine aD 1 H ?_;clear H;intro a H;refine aX jD 0 (vs:=[_,_,_,_,_,_]) _ H wn rfl rfl rfl rfl rfl rfl rfl rfl ?_;clear H;intro w H;dsimp only [List.set,setRow] at H;refine aD 5 H ?_;clear H;intro a H;refine aR jD (cs:=_) H wn rfl rfl (fun j v hj=>H.hp.aI (aH hgm (hrow2 j v hj))) rfl ?_;clear H;intro a H;refine dz jD H wn rfl ?_;clear H;intro b9 a w tC H;refine aX jD 0 (vs:=[_,_,_,_,_,_]) _ H wn rfl rfl rfl rfl rfl rfl rfl rfl ?_;clear H;intro w H;dsimp only [List.set,setRow] at H;refine aD 3 H ?_;clear H;intro a H;refine aR jD (cs:=[_,_,_,_,_,_]) H wn rfl rfl (H.hp.bO 1 rfl rfl) rfl ?_;clear H;intro a H;refine aR jD (cs:=[_,_,_,_,_,_]) H wn rfl rfl (H.hp.bO 0 rfl rfl) rfl ?_;clear H;intro a H;refine ji H wn rfl rfl (hf k hk2 hk3 _ _ _ _ hgm H.ro (hr1.mono hgm) (hr2.mono hgm)) rfl ?_;clear H;rintro v29 xu a w ⟨Mr,rfl,vE⟩ xK H;refine iR 2 H ?_ ?_ <;> clear H
  ·intro kR
   refine aP 3 ?_;exact ⟨false,rfl,by simp only [qZ,false_iff];rintro rfl;exact absurd (vE.2 rfl) (by simpa using kR)⟩
  intro kR
  try have p30:=dF kR
  refine ak 4 ?_;intro a H;refine aC ?_;refine cB ((k+1,xu)) (by exact (H.dY (Pl:=[_,_]) (dJ:=[]) [] (by decide) rfl).sub ⟨rfl,rfl,rfl,rfl,rfl,bq⟩) ?_ ?_
  ·(try dsimp only);exact ⟨by omega,by rw [fP hk2,fP hk3,hsame,vE.1 (by simpa using kR)],fun b o h=>xK b o (hgm b o h)⟩
  first|omega|(dsimp only;omega)
 intro qI
 refine aP 4 ?_;exact ⟨true,rfl,by rw [fJ (by omega),fJ (by omega)] at hsame;simpa using hsame⟩
theorem aiH (G:GH) (x y:eD):zN (.func (.func 49) #[] #[]) G x.dat y.dat (x=y):=by
 intro G1 w0 cs cs' hm hG h1 h2;refine iM (caps:=[]) aia ?_;obtain ⟨pA,pn,pc,rfl,hp1⟩:=Oa h1;obtain ⟨qA,qn,qc,rfl,hp2⟩:=Oa h2;have he:=eD.eq_iff x y;refine eN [(0,_),(1,_)] func49 rfl ntmps49 rfl rfl hG ?_;refine ak 1 ?_;intro a H;refine dP (cs:=[_,_]) H wn rfl rfl rfl ?_;clear H;intro b2 a w hb2 H;refine dP (cs:=[_,_]) H wn rfl rfl rfl ?_;clear H;intro b3 a w hb3 H;refine kJ 9 10 H ?_ ?_ <;> clear H
 ·intro h10
  try have gX:=dT h10
  refine ak 4 ?_;intro a H;refine s_call aib H (wg H rfl rfl h10) rfl (aiX _ _ H.ro x.levels y.levels _ _ hp1 hp2) rfl ?_;clear H;rintro v15 Bg a w rfl ze H;refine fu 3 H ?_;exact ⟨_,rfl,by rw [← he];simp_all⟩
 intro h10
 try have gX:=dF h10
 refine aP 8 ?_;exact ⟨_,rfl,by rw [← he];simp_all⟩
theorem aiI (G:GH) (w0:World) (hG:Hold G w0) (A B:List aT) (v u:aj) (hv:au G (.sl 2 (A.map aT.dat)) v) (hu:au G (.sl 2 (B.map aT.dat)) u) :
  Calls prog 107 #[v,u] w0 (bC w0 G fun r G'=>r=.bool (decide (A=B))):=by
 refine eN [(0,_),(1,_)] func107 rfl ntmps107 rfl rfl hG ?_;refine ak 6 ?_;intro a H;refine s_call XE H wn rfl (X8 _ _ H.ro A B _ _ hv hu) rfl ?_;clear H;rintro v7 G7 a w rfl wL H;refine fu 2 H ?_;exact rfl
theorem aiL (G:GH) (x y:bS):zN (.func (.func 106) #[] #[]) G x.dat y.dat (x=y):=by
 intro G1 w0 cs cs' hm hG h1 h2;refine iM (caps:=[]) afS ?_;obtain ⟨pA,pn,pc,rfl,hp1⟩:=O4 h1;obtain ⟨qA,qn,qc,rfl,hp2⟩:=O4 h2;have he:=bS.eq_iff x y;refine eN [(0,_),(1,_)] func106 rfl ntmps106 rfl rfl hG ?_;refine ak 1 ?_;intro a H;refine dP (cs:=[_,_,_,_,_,_]) H wn rfl rfl rfl ?_;clear H;intro b2 a w hb2 H;refine dP (cs:=[_,_,_,_,_,_]) H wn rfl rfl rfl ?_;clear H;intro b3 a w hb3 H;refine pU 9 10 H ?_ ?_ <;> clear H
 ·intro gX
  refine jM 7 17 ?_ ?_
  ·intro jr
   try have jH:=dT jr
   refine ak 4 ?_;intro a H;refine AO H (wg H rfl rfl jr) rfl rfl rfl ?_;clear H;intro a H;rw [show (x.name.toList == y.name.toList)=decide (x.name=y.name) by rw [mF,bytes_beq,decide_eq_true_iff]] at H;refine pU 2 24 H ?_ ?_ <;> clear H
   ·intro jq
    refine lU 7 31 ?_ ?_
    ·intro p31
     refine jM 7 38 ?_ ?_
     ·intro mG
      try have p38:=dT mG
      refine ak 4 ?_;intro a H;refine s_call afT H (wg H rfl rfl mG) rfl (aiI _ _ H.ro x.props y.props _ _ hp1 hp2) rfl ?_;clear H;rintro v43 FV a w rfl BL H;refine fu 3 H ?_;exact ⟨_,rfl,by rw [← he];simp_all⟩
     intro mG
     try have p38:=dF mG
     refine aP 8 ?_;exact ⟨_,rfl,by rw [← he];simp_all⟩
    intro p31
    refine aP 15 ?_;exact ⟨_,rfl,by rw [← he];simp_all⟩
   intro jq
   refine aP 22 ?_;exact ⟨_,rfl,by rw [← he];simp_all⟩
  intro jr
  try have jH:=dF jr
  refine aP 29 ?_;exact ⟨_,rfl,by rw [← he];simp_all⟩
 intro gX
 refine aP 36 ?_;exact ⟨_,rfl,by rw [← he];simp_all⟩
theorem aiK (G:GH) (w0:World) (hG:Hold G w0) (A B:List bS) (v u:aj) (hv:au G (.sl 6 (A.map bS.dat)) v) (hu:au G (.sl 6 (B.map bS.dat)) u) :
  Calls prog 54 #[v,u] w0 (bC w0 G fun r G'=>∃ b,r=.bool b∧(b=true↔A=B)):=by
 refine eN [(0,_),(1,_)] func54 rfl ntmps54 rfl rfl hG ?_;refine ak 6 ?_;intro a H;refine s_call afR H wn rfl (aiO _ _ H.ro A B _ _ _ hv hu (fun i h1 h2=>aiL _ _ _)) rfl ?_;clear H;rintro v7 G7 a w ⟨b7,rfl,vG⟩ wL H;refine fu 2 H ?_;exact ⟨_,rfl,vG⟩
end
section
open Go.RowKit
section
variable {N:Nat} {D:List Deferred} {w0:World} {F:Nat→Prop} {G0 G G1 G2:GH} {L L1 L2:OL} {T Xs:List (Nat × aj)}
variable {r:Option Nat} {P:Program} {Q:Exit→Act→World→Prop} {l:List Oper} {a a':Act} {w w':World}
theorem adX {id:Nat} (hm:P.follows .mixedOrders=true) (bJ:List (List Nat)) (B:List Nat) (hk:wD l bJ=true) (hB:uQ l bJ B=true) (m1 m2 m3:Nat) (Zq:B.contains m1=false) (ND:B.contains m2=false) (SX:B.contains m3=false) (hne:Nat.beq m1 m2=false) (hne1:Nat.beq m1 m3=false) (hne2:Nat.beq m2 m3=false) (mU:(bJ.getD m3 []).contains m1=true) (h23:(bJ.getD m3 []).contains m2=true) (Fg Cb Uq:Obj) (pr:Nat→Nat→Nat→aj→GH→Prop)
  (hp1:∀ b b' c i v G,Nat.beq i m1=false→(bJ.getD i []).contains m1=false→pr b c i v G→pr b' c i v G)
  (hp2:∀ b c c' i v G,Nat.beq i m2=false→(bJ.getD i []).contains m2=false→pr b c i v G→pr b c' i v G)
  (H:St N D w0 F G0 G L T a w)
  (hstep:allI (fun i o=>∀ b c L' S a w G1,(∀ x,x∈L→x∈L')→B.contains i=false→Nat.beq i m1=false→Nat.beq i m2=false→Nat.beq i m3=false→S i=false→(∀ j∈bJ.getD i [],S j=true)→(∀ k o,G k=some o→G1 k=some o)→St N D w0 F G0 G1 L' T a w→(∀ i d,S i=true→dX l i=some d→∃ v,a.tmps[d]?=some v∧pr b c i v G1) →
   WL r P l.toArray (fun e a' w'=>e=.normal∧DX N D w0 F G0 G L' T l (pr b c) (cZ S i) a' w') [o] a w) 0 l)
  (J3:∀ o c L' S a w G1,(∀ x,x∈L→x∈L')→l[m1]?=some o→S m1=false→(∀ j∈bJ.getD m1 [],S j=true)→(∀ k o,G k=some o→G1 k=some o)→St N D w0 F G0 G1 L' T a w→(∀ b i d,i≠m1→S i=true→dX l i=some d→∃ v,a.tmps[d]?=some v∧pr b c i v G1) →
   WL r P l.toArray (fun e a' w'=>e=.normal∧∃ b,DX N D w0 F G0 G ((b,Fg) :: L') T l (pr b c) (cZ S m1) a' w') [o] a w)
  (J4:∀ o b L' S a w G1,(∀ x,x∈L→x∈L')→l[m2]?=some o→S m2=false→(∀ j∈bJ.getD m2 [],S j=true)→(∀ k o,G k=some o→G1 k=some o)→St N D w0 F G0 G1 L' T a w→(∀ c i d,i≠m2→S i=true→dX l i=some d→∃ v,a.tmps[d]?=some v∧pr b c i v G1) →
   WL r P l.toArray (fun e a' w'=>e=.normal∧∃ c,DX N D w0 F G0 G ((c,Cb) :: L') T l (pr b c) (cZ S m2) a' w') [o] a w)
  (SY:∀ o b c S a w G1,l[m3]?=some o→S m3=false→(∀ j∈bJ.getD m3 [],S j=true)→(∀ k o,G k=some o→G1 k=some o)→St N D w0 F G0 G1 ((b,Fg) :: (c,Cb) :: L) T a w→(∀ i d,S i=true→dX l i=some d→∃ v,a.tmps[d]?=some v∧pr b c i v G1) →
   WL r P l.toArray (fun e a' w'=>e=.normal∧DX N D w0 F G0 G ((b,Uq) :: (c,Cb) :: L) T l (pr b c) (cZ S m3) a' w') [o] a w)
  (hend:∀ b c a w G1,(∀ k o,G k=some o→G1 k=some o)→St N D w0 F G0 G1 ((b,Uq) :: (c,Cb) :: L) T a w→(∀ i d,B.contains i=false→dX l i=some d→∃ v,a.tmps[d]?=some v∧pr b c i v G1)→WL r P l.toArray (fun e a w=>e=.normal∧Q .normal a w) (oh l B) a w)
  (alN:Nat.blt m1 l.length=true) (EL:Nat.blt m2 l.length=true) (EM:Nat.blt m3 l.length=true):WP r P (.region id l.toArray true) Q a w:=by
 have ne:∀ {x y:Nat},Nat.beq x y=false→x≠y:=fun h e=>by subst e;rw [Nat.beq_refl] at h;cases h
 have hne':m1≠m2:=ne hne
 have J5:m1≠m3:=ne hne1
 have NJ:m2≠m3:=ne hne2
 refine Ei hm bJ B hk hB (fun S a w=>(S m3=true→S m1=true∧S m2=true)∧∃ b c L',L'=(bif S m1 then [(b,bif S m3 then Uq else Fg)] else [])++((bif S m2 then [(c,Cb)] else [])++L)∧DX N D w0 F G0 G L' T l (pr b c) S a w)
  ⟨fun h=>absurd (show false=true from h) (by decide),0,0,L,rfl,G,fun _ _ h=>h,H.move H.hp.drew,fun _ _ h=>absurd (show false=true from h) (by decide)⟩ ?_ ?_
 ·rintro i o S a w ho hb aL iK hdesc ⟨Dl,b,c,L',hL,G1,hG,HS,hv⟩
  have hsub:∀ x,x∈L→x∈L':=fun x hx=>by rw [hL];exact List.mem_append_right _ (List.mem_append_right _ hx)
  have hno:∀ j,j < l.length→S j=true→(bJ.getD j []).contains i=false:=fun j hjl hj=>by
   cases hc:(bJ.getD j []).contains i with
   | false=>rfl
   | true =>
    have:=hdesc j hjl (by simpa using hc)
    rw [this] at hj;cases hj
  by_cases h1:i=m1
  ·subst h1
   have yU:S m3=false:=hdesc m3 (Eq.mp Nat.blt_eq EM) (by simpa using mU)
   have h:=J3 o c L' S a w G1 hsub ho aL iK hG HS fun b' j d hj hSj hd=>by
    obtain ⟨v,hv1,hv2⟩:=hv j d hSj hd
    exact ⟨v,hv1,hp1 b b' c j v _ (nW hj) (hno j (qB hd) hSj) hv2⟩
   refine lC (fun e a' w' ⟨he,b',hD⟩=>⟨he,fun h3=>?_,b',c,_,?_,hD⟩) h
   ·rw [show cZ S i m3=S m3 from ah J5.symm,yU] at h3;cases h3
   ·rw [hL,aL,show cZ S i i=true from av rfl,show cZ S i m2=S m2 from ah hne'.symm,show cZ S i m3=S m3 from ah J5.symm,yU]
    rfl
  ·by_cases h2:i=m2
   ·subst h2
    have yU:S m3=false:=hdesc m3 (Eq.mp Nat.blt_eq EM) (by simpa using h23)
    have h:=J4 o b L' S a w G1 hsub ho aL iK hG HS fun c' j d hj hSj hd=>by
     obtain ⟨v,hv1,hv2⟩:=hv j d hSj hd
     exact ⟨v,hv1,hp2 b c c' j v _ (nW hj) (hno j (qB hd) hSj) hv2⟩
    refine lC (fun e a' w' ⟨he,c',hD⟩=>⟨he,fun h3=>?_,b,c',_,rfl,hD.perm ?_⟩) h
    ·rw [show cZ S i m3=S m3 from ah NJ.symm,yU] at h3;cases h3
    ·rw [hL,aL,show cZ S i i=true from av rfl,show cZ S i m1=S m1 from ah hne',show cZ S i m3=S m3 from ah NJ.symm]
     cases S m1 with
     | false=>exact List.Perm.refl _
     | true=>exact List.Perm.swap _ _ _
   ·by_cases h3:i=m3
    ·subst h3
     have hS1:S m1=true:=iK m1 (by simpa using mU)
     have hS2:S m2=true:=iK m2 (by simpa using h23)
     rw [hS1,hS2,aL] at hL
     subst hL
     have h:=SY o b c S a w G1 ho aL iK hG HS hv
     refine lC (fun e a' w' ⟨he,hD⟩=>⟨he,fun _=>⟨?_,?_⟩,b,c,_,?_,hD⟩) h
     ·rw [show cZ S i m1=S m1 from ah J5];exact hS1
     ·rw [show cZ S i m2=S m2 from ah NJ];exact hS2
     ·rw [show cZ S i i=true from av rfl,show cZ S i m1=S m1 from ah J5,show cZ S i m2=S m2 from ah NJ,hS1,hS2];rfl
    ·have h:=yH hstep i o ho
     rw [fU] at h
     have e1:cZ S i m1=S m1:=ah (fun e=>h1 e.symm)
     have e2:cZ S i m2=S m2:=ah (fun e=>h2 e.symm)
     have e3:cZ S i m3=S m3:=ah (fun e=>h3 e.symm)
     refine lC (fun e a' w' ⟨he,hD⟩=>⟨he,?_,b,c,L',?_,hD⟩) (h b c L' S a w G1 hsub hb (nW h1) (nW h2) (nW h3) aL iK hG HS hv)
     ·rw [e1,e2,e3];exact Dl
     ·rw [e1,e2,e3];exact hL
 ·rintro S a w hall H8 ⟨Dl,b,c,L',hL,G1,hG,HS,hv⟩
  have hs1:S m1=true:=hall m1 (Eq.mp Nat.blt_eq alN) Zq
  have hs2:S m2=true:=hall m2 (Eq.mp Nat.blt_eq EL) ND
  have hs3:S m3=true:=hall m3 (Eq.mp Nat.blt_eq EM) SX
  rw [hs1,hs2,hs3] at hL
  subst hL
  exact hend b c a w G1 hG HS fun j d hb hd=>hv j d (hall j (qB hd) hb) hd
end
end
section
open Go.RowKit
theorem aic:∀ args w,(callFunc 53 args).run prog w=.ok (.enter 53 args) w:=enters func53 rfl (by kernel_rfl)
theorem aie:∀ args w,(callFunc 54 args).run prog w=.ok (.enter 54 args) w:=enters func54 rfl (by kernel_rfl)
theorem aif:∀ args w,(callFunc 55 args).run prog w=.ok (.enter 55 args) w:=enters func55 rfl (by kernel_rfl)
theorem aii:∀ args w,(callFunc 56 args).run prog w=.ok (.enter 56 args) w:=enters func56 rfl (by kernel_rfl)
theorem aij:∀ args w,(callFunc 57 args).run prog w=.ok (.enter 57 args) w:=enters func57 rfl (by kernel_rfl)
theorem gI.eq_iff (a b:gI):((((((a.flow=b.flow∧a.fin=b.fin)∧a.revs=b.revs)∧a.gZ.styles=b.gZ.styles)∧a.gZ.lists=b.gZ.lists)∧a.gZ.comments=b.gZ.comments)∧a.gZ.vars=b.gZ.vars)↔a=b:=by
 obtain ⟨a1,a2,a3,a4,a5,a6,a7⟩:=a;obtain ⟨b1,b2,b3,b4,b5,b6,b7⟩:=b
 simp [and_assoc]
theorem Xx (G:GH) (w0:World) (hG:Hold G w0) (D E:iE) (x y:gI) (hD:jP G D x) (hE:jP G E y) (hz:bZ x.flow≤4294967296) :
  Calls prog 16 #[D.val,E.val] w0 (bC w0 G fun u G'=>∃ b,u=.bool b∧(b=true↔x=y)):=by
 have he:=gI.eq_iff x y;refine eN [(0,_),(1,_)] func16 rfl ntmps16 rfl rfl hG ?_;refine ak 1 ?_;intro a H;refine dP (cs:=[_,_,_,_,_,_,_,_,_,_,_]) H wn rfl rfl rfl ?_;clear H;intro b2 a w hb2 H;refine dP (cs:=[_,_,_,_,_,_,_,_,_,_,_]) H wn rfl rfl rfl ?_;clear H;intro b3 a w hb3 H;refine aD 3 H ?_;clear H;intro a H;obtain ⟨Ga0,Dg,rJ,H⟩:=H.eu;obtain ⟨Ga,zl,hb2',H⟩:=H.eu;have hga:=fun j v hj=>kW hb2' 0 D.cells rfl j v hj;have hge:∀ j v,E.cells[j]?=some v→aI Ga b3 (0+j)=some v:=fun j v hj=>aH zl (kW rJ 0 E.cells rfl j v hj)
 have hgd:∀ j v,[aM D.p,vi x.fin.marks.ins,vi x.fin.marks.move,aM D.d,aM D.y][j]?=some v→aI Ga b2 (1+j)=some v:=fun j v hj=>by rw [← hD.ins,← hD.mv] at hj;exact kW hb2' 1 [aM D.p,vi D.ins,vi D.move,aM D.d,aM D.y] rfl j v hj
 have hgf:∀ j v,[aM E.p,vi y.fin.marks.ins,vi y.fin.marks.move,aM E.d,aM E.y][j]?=some v→aI Ga b3 (1+j)=some v:=fun j v hj=>by rw [← hE.ins,← hE.mv] at hj;exact aH zl (kW rJ 1 [aM E.p,vi E.ins,vi E.move,aM E.d,aM E.y] rfl j v hj)
 have hgs:∀ j v,[aM D.s1,aM D.s2,aM D.s3,aM D.s4][j]?=some v→aI Ga b2 (7+j)=some v:=fun j v hj=>kW hb2' 7 [aM D.s1,aM D.s2,aM D.s3,aM D.s4] rfl j v hj;have hgt:∀ j v,[aM E.s1,aM E.s2,aM E.s3,aM E.s4][j]?=some v→aI Ga b3 (7+j)=some v:=fun j v hj=>aH zl (kW rJ 7 [aM E.s1,aM E.s2,aM E.s3,aM E.s4] rfl j v hj);have hx1:=(hD.fl.mono Dg).mono zl;have hy1:=(hE.fl.mono Dg).mono zl;have hx2:=(hD.hd.mono Dg).mono zl;have hy2:=(hE.hd.mono Dg).mono zl;have hx3:=(hD.rv.mono Dg).mono zl;have hy3:=(hE.rv.mono Dg).mono zl;have hx4:=(hD.st.mono Dg).mono zl;have hy4:=(hE.st.mono Dg).mono zl;clear hD hE
 have dM:∀ (aJ qy aQ:Nat) (v:aj) (G G':GH),(∀ k o,G k=some o→G' k=some o)→(fun (aJ qy aQ:Nat) (v:aj) (G:GH)=>match aQ with|0=>v=(aG b2 7)|1=>v=.agg #[aM D.s1,aM D.s2,aM D.s3,aM D.s4]|2=>v=(aG b3 7)|3=>v=.agg #[aM E.s1,aM E.s2,aM E.s3,aM E.s4]|4=>v=(aG aJ 0)|5=>v=(aG qy 0)|_=>True) aJ qy aQ v G→(fun (aJ qy aQ:Nat) (v:aj) (G:GH)=>match aQ with|0=>v=(aG b2 7)|1=>v=.agg #[aM D.s1,aM D.s2,aM D.s3,aM D.s4]|2=>v=(aG b3 7)|3=>v=.agg #[aM E.s1,aM E.s2,aM E.s3,aM E.s4]|4=>v=(aG aJ 0)|5=>v=(aG qy 0)|_=>True) aJ qy aQ v G':=by
  intro aJ qy aQ v G G' hm h
  match aQ,h with
  | 0,h=>exact h
  | 1,h=>exact h
  | 2,h=>exact h
  | 3,h=>exact h
  | 4,h=>exact h
  | 5,h=>exact h
  | 6,h=>exact trivial
  | 7,h=>exact trivial
  | _+8,h=>exact trivial
 refine adX (hmx) [[],[0],[],[2],[],[],[0,1,4,5],(ra 0 7)] [7] (by kernel_rfl) (by kernel_rfl) 4 5 6 (by decide) (by decide) (by decide) (by decide) (by decide) (by decide) (by decide) (by decide) (.cells #[.slice none 0 0,.slice none 0 0,.slice none 0 0,.slice none 0 0] 36 (0,0)) (.cells #[.slice none 0 0,.slice none 0 0,.slice none 0 0,.slice none 0 0] 36 (0,0)) (.cells #[aM D.s1,aM D.s2,aM D.s3,aM D.s4] 36 (0,0)) (fun (aJ qy aQ:Nat) (v:aj) (G:GH)=>match aQ with|0=>v=(aG b2 7)|1=>v=.agg #[aM D.s1,aM D.s2,aM D.s3,aM D.s4]|2=>v=(aG b3 7)|3=>v=.agg #[aM E.s1,aM E.s2,aM E.s3,aM E.s4]|4=>v=(aG aJ 0)|5=>v=(aG qy 0)|_=>True) (fun b b' c i v G hi hc h=>by match i,hi,hc,h with|0,_,_,h=>exact h|1,_,_,h=>exact h|2,_,_,h=>exact h|3,_,_,h=>exact h|4,hi,_,_=>exact absurd hi (by decide)|5,_,_,h=>exact h|6,_,hc,_=>exact absurd hc (by decide)|7,_,hc,_=>exact absurd hc (by decide)|_+8,_,_,_=>exact trivial) (fun b c c' i v G hi hc h=>by match i,hi,hc,h with|0,_,_,h=>exact h|1,_,_,h=>exact h|2,_,_,h=>exact h|3,_,_,h=>exact h|4,_,_,h=>exact h|5,hi,_,_=>exact absurd hi (by decide)|6,_,hc,_=>exact absurd hc (by decide)|7,_,hc,_=>exact absurd hc (by decide)|_+8,_,_,_=>exact trivial) H ?_ ?_ ?_ ?_ ?_ (by kernel_rfl) (by kernel_rfl) (by kernel_rfl)
 ·clear H;refine aF ?_ ?_ ?_ ?_ (aF ?_ ?_ ?_ ?_ cO)
  ·intro aJ qy dH aS a w G1 dN _ _ _ _ aL hc hG HT hv;have H:=HT;clear aL;have Hb:=H.full;have H:=Hb;clear hc;refine aD 1 H ?_;clear H;intro a H;refine aC ⟨rfl,?_⟩;exact dL (by kernel_rfl) (dM aJ qy) rfl rfl HT Hb hG hv (fun _ _ h=>h) (rfl) H
  ·intro aJ qy dH aS a w G1 dN _ _ _ _ aL hc hG HT hv;have H:=HT;clear aL;have H:=H.aN (hv 0 8 (hc 0 (by decide)) rfl) rfl;have Hb:=H.full;have H:=Hb;clear hc;refine aR sD (cs:=[aM D.s1,aM D.s2,aM D.s3,aM D.s4]) H wn rfl rfl (fun j v hj=>H.hp.aI (aH hG (hgs j v hj))) rfl ?_;clear H;intro a H;refine aC ⟨rfl,?_⟩;exact dL (by kernel_rfl) (dM aJ qy) rfl rfl HT Hb hG hv (fun _ _ h=>h) (rfl) H
  ·intro aJ qy dH aS a w G1 dN _ _ _ _ aL hc hG HT hv;have H:=HT;clear aL;have Hb:=H.full;have H:=Hb;clear hc;refine aD 1 H ?_;clear H;intro a H;refine aC ⟨rfl,?_⟩;exact dL (by kernel_rfl) (dM aJ qy) rfl rfl HT Hb hG hv (fun _ _ h=>h) (rfl) H
  ·intro aJ qy dH aS a w G1 dN _ _ _ _ aL hc hG HT hv;have H:=HT;clear aL;have H:=H.aN (hv 2 10 (hc 2 (by decide)) rfl) rfl;have Hb:=H.full;have H:=Hb;clear hc;refine aR sD (cs:=[aM E.s1,aM E.s2,aM E.s3,aM E.s4]) H wn rfl rfl (fun j v hj=>H.hp.aI (aH hG (hgt j v hj))) rfl ?_;clear H;intro a H;refine aC ⟨rfl,?_⟩;exact dL (by kernel_rfl) (dM aJ qy) rfl rfl HT Hb hG hv (fun _ _ h=>h) (rfl) H
  ·intro _ _ _ _ _ _ _ _ _ hB;exact absurd hB (by decide)
  ·intro _ _ _ _ _ _ _ _ _ _ hB;exact absurd hB (by decide)
  ·intro _ _ _ _ _ _ _ _ _ _ _ hB;exact absurd hB (by decide)
  intro _ _ _ _ _ _ _ _ hB;exact absurd hB (by decide)
 ·clear H;intro o_ qy dH aS a w G1 dN jT _ hc hG HT hv;obtain rfl:_=o_:=Option.some.inj jT;clear jT;have H:=HT;have Hb:=H.full;have H:=Hb;clear hc;refine dz sD H wn rfl ?_;clear H;intro b5 a w hb5 H;refine aC ⟨rfl,b5,?_⟩;exact Eo (by kernel_rfl) rfl HT Hb hG (fun j e h1 h2 h3=>hv _ j e h1 h2 h3) (rfl) H
 ·clear H;intro o_ aJ dH aS a w G1 dN jT _ hc hG HT hv;obtain rfl:_=o_:=Option.some.inj jT;clear jT;have H:=HT;have Hb:=H.full;have H:=Hb;clear hc;refine dz sD H wn rfl ?_;clear H;intro b6 a w hb6 H;refine aC ⟨rfl,b6,?_⟩;exact Eo (by kernel_rfl) rfl HT Hb hG (fun j e h1 h2 h3=>hv _ j e h1 h2 h3) (rfl) H
 ·clear H;intro o_ aJ qy aS a w G1 jT _ hc hG HT hv;obtain rfl:_=o_:=Option.some.inj jT;clear jT;have H:=HT;have H:=H.aN (hv 4 5 (hc 4 (by decide)) rfl) rfl;have H:=H.aN (hv 1 9 (hc 1 (by decide)) rfl) rfl;have Hb:=H.full;have H:=Hb;clear hc;refine aX sD 0 (vs:=[_,_,_,_]) _ H wn rfl rfl rfl rfl rfl rfl rfl rfl ?_;clear H;intro w H;dsimp only [List.set,setRow] at H;refine aC ⟨rfl,?_⟩;exact QD rfl HT hG hv H
 clear H;intro b5 b6 a w G iN H hv;have H:=H.aN (hv 4 5 rfl rfl) rfl;have H:=H.aN (hv 5 6 rfl rfl) rfl;have H:=H.aN (hv 3 11 rfl rfl) rfl;clear hv;refine aX sD 1 (vs:=[_,_,_,_]) _ H wn rfl rfl rfl rfl rfl rfl rfl rfl ?_;clear H;intro w H;dsimp only [List.set,setRow] at H;refine aC ⟨rfl,?_⟩;refine dQ ?_;refine fM 5 H ?_;clear H;intro a H;refine iC pG H wn rfl (H.hp.aI (aH iN (hga 0 _ rfl))) rfl ?_;clear H;refine ak 1 ?_;intro a H;refine iC pG H wn rfl (H.hp.aI (aH iN (hge 0 _ rfl))) rfl ?_;clear H;intro a H;refine s_call QW H wn rfl (aja _ _ H.ro x.flow y.flow _ _ (hx1.mono iN) (hy1.mono iN) (by omega)) rfl ?_;clear H;rintro v16 nk a w ⟨b16,rfl,YV⟩ gU H;refine kJ 1 17 H ?_ ?_ <;> clear H
 ·intro jr
  try have jH:=dT jr
  refine ak 1 ?_;intro a H;refine aR dw (cs:=[aM D.p,vi x.fin.marks.ins,vi x.fin.marks.move,aM D.d,aM D.y]) H (wg H rfl rfl jr) rfl rfl (fun j v hj=>H.hp.aI (aH gU (aH iN (hgd j v hj)))) rfl ?_;clear H;refine ak 1 ?_;intro a H;refine aR dw (cs:=[aM E.p,vi y.fin.marks.ins,vi y.fin.marks.move,aM E.d,aM E.y]) H (wg H rfl rfl jr) rfl rfl (fun j v hj=>H.hp.aI (aH gU (aH iN (hgf j v hj)))) rfl ?_;clear H;intro a H;refine s_call GI H (wg H rfl rfl jr) rfl (GK _ _ H.ro x.fin y.fin _ _ _ _ _ _ ((hx2.mono iN).mono gU) ((hy2.mono iN).mono gU)) rfl ?_;clear H;rintro v22 VK a w rfl Hw H;refine kJ 2 24 H ?_ ?_ <;> clear H
  ·intro fB
   try have jq:=dT fB
   refine ak 1 ?_;intro a H;refine iC zK H (wg H rfl rfl fB) rfl (H.hp.aI (aH Hw (aH gU (aH iN (hga 6 _ rfl))))) rfl ?_;clear H;refine ak 1 ?_;intro a H;refine iC zK H (wg H rfl rfl fB) rfl (H.hp.aI (aH Hw (aH gU (aH iN (hge 6 _ rfl))))) rfl ?_;clear H;intro a H;refine s_call aic H (wg H rfl rfl fB) rfl (aiY _ _ H.ro x.revs y.revs _ _ (((hx3.mono iN).mono gU).mono Hw) (((hy3.mono iN).mono gU).mono Hw)) rfl ?_;clear H;rintro v29 xu a w rfl xK H;have hx5:=(((hx4.mono iN).mono gU).mono Hw).mono xK;have NY:=(((hy4.mono iN).mono gU).mono Hw).mono xK;refine kJ 2 31 H ?_ ?_ <;> clear H
   ·intro h31
    try have p31:=dT h31
    refine ak 4 ?_;intro a H;refine s_call aie H (wg H rfl rfl h31) rfl (aiK _ _ H.ro x.gZ.styles y.gZ.styles _ _ hx5.st NY.st) rfl ?_;clear H;rintro v36 G36 a w ⟨b36,rfl,asY⟩ Hz H;refine kJ 2 38 H ?_ ?_ <;> clear H
    ·intro mG
     try have p38:=dT mG
     refine ak 5 ?_;intro a H;refine s_call aif H (wg H rfl rfl mG) rfl (aiN _ _ H.ro x.gZ.lists y.gZ.lists _ _ _ (hx5.li.mono Hz) (NY.li.mono Hz) (fun i h1 h2=>aiH _ _ _)) rfl ?_;clear H;rintro v44 VQ a w ⟨b44,rfl,atb⟩ JW H;refine kJ 2 46 H ?_ ?_ <;> clear H
     ·intro h46
      try have p46:=dT h46
      refine ak 4 ?_;intro a H;refine s_call aii H (wg H rfl rfl h46) rfl (aiW _ _ H.ro x.gZ.comments y.gZ.comments _ _ ((hx5.cm.mono Hz).mono JW) ((NY.cm.mono Hz).mono JW)) rfl ?_;clear H;rintro v51 G51 a w rfl HY H;refine kJ 2 53 H ?_ ?_ <;> clear H
      ·intro Nf
       try have p53:=dT Nf
       refine ak 4 ?_;intro a H;refine s_call aij H (wg H rfl rfl Nf) rfl (aiZ _ _ H.ro x.gZ.vars y.gZ.vars _ _ (((hx5.va.mono Hz).mono JW).mono HY) (((NY.va.mono Hz).mono JW).mono HY)) rfl ?_;clear H;rintro v58 G58 a w rfl alJ H;refine fu 3 H ?_;exact ⟨_,rfl,by rw [← he];simp_all⟩
      intro Nf
      try have p53:=dF Nf
      refine aP 8 ?_;exact ⟨_,rfl,by rw [← he];simp_all⟩
     intro h46
     try have p46:=dF h46
     refine aP 15 ?_;exact ⟨_,rfl,by rw [← he];simp_all⟩
    intro mG
    try have p38:=dF mG
    refine aP 23 ?_;exact ⟨_,rfl,by rw [← he];simp_all⟩
   intro h31
   try have p31:=dF h31
   refine aP 30 ?_;exact ⟨_,rfl,by rw [← he];simp_all⟩
  intro fB
  try have jq:=dF fB
  refine aP 37 ?_;exact ⟨_,rfl,by rw [← he];simp_all⟩
 intro jr
 try have jH:=dF jr
 refine aP 44 ?_;exact ⟨_,rfl,by rw [← he];simp_all⟩
end
section
open Go.RowKit
theorem QG:∀ args w,(callFunc 12 args).run prog w=.ok (.enter 12 args) w:=enters func12 rfl (by kernel_rfl)
theorem agr:∀ args w,(callFunc 13 args).run prog w=.ok (.enter 13 args) w:=enters func13 rfl (by kernel_rfl)
theorem XK:∀ args w,(callFunc 16 args).run prog w=.ok (.enter 16 args) w:=enters func16 rfl (by kernel_rfl)
theorem ahc:∀ args w,(callFunc 18 args).run prog w=.ok (.enter 18 args) w:=enters func18 rfl (by kernel_rfl)
def zeroV:iE:=⟨(none,0,0),(none,0,0),(none,0,0),(none,0,0),(none,0,0),(none,0,0),(none,0,0),(none,0,0),(none,0,0),0,0⟩
theorem asx (G:GH):jP G zeroV Vz:=⟨au.iH rfl (by decide),FN _,rfl,rfl,au.iH rfl (by decide),au.iH rfl (by decide),au.iH rfl (by decide),au.iH rfl (by decide),au.iH rfl (by decide)⟩
theorem aof {acc rej:Int→Bool} {d:gI} (hs:wm 536870912 d) (hc:jc d=0):xk (mY acc rej d)∧(tN (mY acc rej d).flow∧bZ (lX (mY acc rej d).flow)≤1073741824∧(∀ k∈qW (xQ (mY acc rej d)),-9223372036854775808≤k∧k < 9223372036854775808)∧(qW (xQ (mY acc rej d))).length≤4294967296) :=
 ⟨(KL hs (by decide) (by decide)).z,aaC (KL hs (by decide) (by decide)).z (abu hc)⟩
theorem apj {A R:List Int} {d:gI} (hs:wm 536870912 d):bZ (Cg A R d).flow≤4294967296:=by
 unfold Cg
 split
 ·have:=(aaD (KL (acc:=lsB A) (rej:=lsB R) hs (by decide) (by decide))).fl;omega
 exact gN _
theorem afy (G:GH) (w0:World) (hG:Hold G w0) (D:iE) (d:gI) (hR:jP G D d) (hs:wm 536870912 d) (A R:List Int) (va vr:aj) (hd:Bc G A R va vr) :
  Calls prog 4 #[D.val,.agg #[va,vr]] w0 (bC w0 G fun u G'=>u=.bool true):=by
 obtain ⟨aA,an,ac,rfl⟩:=hd.ha.form;obtain ⟨rA,rn,rc,rfl⟩:=hd.hr.form;refine eN [(0,_),(1,_)] func4 rfl ntmps4 rfl rfl hG ?_;refine ak 1 ?_;intro a H;refine dP (cs:=[_,_,_,_,_,_,_,_,_,_,_]) H wn rfl rfl rfl ?_;clear H;intro b2 a w hb2 H;refine dP (cs:=[_,_]) H wn rfl rfl rfl ?_;clear H;intro b3 a w hb3 H;refine aD 3 H ?_;clear H;intro a H;obtain ⟨Ga,hma,rJ,H⟩:=H.eu;obtain ⟨Gb,hmb,hb2',H⟩:=H.eu;have hgd:=fun j v hj=>kW hb2' 0 D.cells rfl j v hj;have hgc:=fun j v hj=>aH hmb (kW rJ 0 [.slice aA an ac,.slice rA rn rc] rfl j v hj);replace hR:=(hR.mono hma).mono hmb;replace hd:=(hd.mono hma).mono hmb;refine yP ?_;refine s_call QG H wn rfl (TT _ _ H.ro) rfl ?_;clear H;rintro v8 G8 a w rfl kL H;replace hR:=hR.mono kL;replace hd:=hd.mono kL;replace hgd:=fun j v hj=>aH kL (hgd j v hj);replace hgc:=fun j v hj=>aH kL (hgc j v hj);refine kJ 2 10 H ?_ ?_ <;> clear H
 ·intro h10
  try have gX:=dT h10
  refine ak 8 ?_;intro a H;refine s_call QG H wn rfl (TT _ _ H.ro) rfl ?_;clear H;rintro v16 nk a w rfl gU H;replace hR:=hR.mono gU;replace hd:=hd.mono gU;replace hgd:=fun j v hj=>aH gU (hgd j v hj);replace hgc:=fun j v hj=>aH gU (hgc j v hj);refine fu 2 H ?_;first|rfl|(simp_all;done)
 intro h10
 try have gX:=dF h10
 intro a H;refine aR iq (cs:=D.cells) H (wg H rfl rfl h10) rfl rfl (fun j v hj=>H.hp.aI (hgd j v hj)) rfl ?_;clear H;intro a H;refine aR wh (cs:=[.slice aA an ac,.slice rA rn rc]) H (wg H rfl rfl h10) rfl rfl (fun j v hj=>H.hp.aI (hgc j v hj)) rfl ?_;clear H;intro a H;refine s_call agr H (wg H rfl rfl h10) rfl (aqY _ _ H.ro D d hR hs.z A R _ _ hd) rfl ?_;clear H;rintro v13 D6 a w ⟨b13,rfl,JN⟩ za H;replace hR:=hR.mono za;replace hd:=hd.mono za;replace hgd:=fun j v hj=>aH za (hgd j v hj);replace hgc:=fun j v hj=>aH za (hgc j v hj);refine gF 3 H ?_ ?_ <;> clear H
 ·intro qh
  refine ak 1 ?_;intro a H;refine s_call QG H wn rfl (TT _ _ H.ro) rfl ?_;clear H;rintro v16 nk a w rfl gU H;replace hR:=hR.mono gU;replace hd:=hd.mono gU;replace hgd:=fun j v hj=>aH gU (hgd j v hj);replace hgc:=fun j v hj=>aH gU (hgc j v hj);refine fu 2 H ?_;first|rfl|(simp_all;done)
 intro qh
 refine ak 1 ?_
 have hc:jc d=0:=by simp_all
 refine ak 1 ?_;intro a H;refine aR iq (cs:=D.cells) H wn rfl rfl (fun j v hj=>H.hp.aI (hgd j v hj)) rfl ?_;clear H;intro a H;refine aR wh (cs:=[.slice aA an ac,.slice rA rn rc]) H wn rfl rfl (fun j v hj=>H.hp.aI (hgc j v hj)) rfl ?_;clear H;intro a H;refine s_call ahx H wn rfl (apo _ _ H.ro D d hR hs hc A R _ _ hd.ha hd.hr hd.la hd.lr) rfl ?_;clear H;rintro v20 FU a w ⟨E,rfl,hE⟩ nN H;replace hR:=hR.mono nN;replace hd:=hd.mono nN;replace hgd:=fun j v hj=>aH nN (hgd j v hj);replace hgc:=fun j v hj=>aH nN (hgc j v hj);refine aD 1 H ?_;clear H;intro a H;(iterate 2 refine jY H wn rfl rfl rfl ?_;clear H;intro a H);refine dz iq H wn rfl ?_;clear H;intro b5 a w hb5 H;refine aX iq 0 (vs:=[_,_,_,_,_,_,_,_,_,_,_]) _ H wn rfl rfl rfl rfl rfl rfl rfl rfl ?_;clear H;intro w H;dsimp only [List.set,setRow] at H;refine aD 4 H ?_;clear H;intro a H;refine aR wh (cs:=[.slice aA an ac,.slice rA rn rc]) H wn rfl rfl (fun j v hj=>H.hp.aI (hgc j v hj)) rfl ?_;clear H;intro a H;refine s_call XT H wn rfl (WX _ _ H.ro A R _ _ hd.ha hd.hr hd.la hd.lr) rfl ?_;clear H;rintro v24 xq a w rfl kK H;replace hR:=hR.mono kK;replace hd:=hd.mono kK;replace hE:=hE.mono kK;replace hgd:=fun j v hj=>aH kK (hgd j v hj);replace hgc:=fun j v hj=>aH kK (hgc j v hj);refine gF 6 H ?_ ?_ <;> clear H
 ·intro p26
  refine jM 5 30 ?_ ?_
  ·intro kR
   try have p30:=dT kR
   intro a H;refine aR iq (cs:=E.cells) H (wg H rfl rfl kR) rfl rfl (H.hp.bO 0 rfl rfl) rfl ?_;clear H;intro a H;refine jh OX [_,_,_,_,_,_,_,_,_,_,_] H (wg H rfl rfl kR) rfl rfl rfl rfl ?_;clear H;intro a H;refine s_call XK H (wg H rfl rfl kR) rfl (Xx _ _ H.ro E zeroV _ Vz hE (asx _) (apj hs)) rfl ?_;clear H;rintro v33 VN a w ⟨b33,rfl,akL⟩ SV H;obtain rfl:=akL.2 (by unfold Cg;rw [ah (by simp_all)]);refine fu 3 H ?_;first|rfl|(simp_all;done)
  intro kR
  try have p30:=dF kR
  refine aP 6 ?_;first|rfl|(simp_all;done)
 intro p26
 refine ak 2 ?_
 have hcd:sP A R=0:=by simp_all
 intro a H;obtain ⟨Gc,hmc,xJ,H⟩:=H.eu;have hge:=fun j v hj=>kW xJ 0 E.cells rfl j v hj;replace hR:=hR.mono hmc;replace hd:=hd.mono hmc;replace hE:=hE.mono hmc;replace hgd:=fun j v hj=>aH hmc (hgd j v hj);replace hgc:=fun j v hj=>aH hmc (hgc j v hj)
 unfold Cg at hE
 rw [av hcd] at hE;rw [hcd] at H;obtain ⟨hz2,p1,p2,p3,p4⟩:=aof (acc:=lsB A) (rej:=lsB R) hs hc;have hzn:=(aaD (KL (acc:=lsB A) (rej:=lsB R) hs (by decide) (by decide))).fl
 have zw:∀ (aQ:Nat) (v:aj) (G G':GH),(∀ k o,G k=some o→G' k=some o)→(fun (aQ:Nat) (v:aj) (G:GH)=>match aQ with|0=>v=vi 0|1=>v=.bool true|2=>v=.bool true|3=>v=.agg E.cells.toArray|4=>v=.agg D.cells.toArray|5=>v=.agg #[.slice aA an ac,.slice rA rn rc]|6=>∃ M:iE,v=M.val∧jP G M (mY (lsB A) (lsB R) d)|7=>∃ M:iE,v=M.val∧jP G M (nD (mY (lsB A) (lsB R) d))|8=>v=.bool true|9=>v=.bool true|_=>True) aQ v G→(fun (aQ:Nat) (v:aj) (G:GH)=>match aQ with|0=>v=vi 0|1=>v=.bool true|2=>v=.bool true|3=>v=.agg E.cells.toArray|4=>v=.agg D.cells.toArray|5=>v=.agg #[.slice aA an ac,.slice rA rn rc]|6=>∃ M:iE,v=M.val∧jP G M (mY (lsB A) (lsB R) d)|7=>∃ M:iE,v=M.val∧jP G M (nD (mY (lsB A) (lsB R) d))|8=>v=.bool true|9=>v=.bool true|_=>True) aQ v G':=by
  intro aQ v G G' hm h
  match aQ,h with
  | 0,h=>exact h
  | 1,h=>exact h
  | 2,h=>exact h
  | 3,h=>exact h
  | 4,h=>exact h
  | 5,h=>exact h
  | 6,h=>exact let ⟨M,h1,h2⟩:=h;⟨M,h1,h2.mono hm⟩
  | 7,h=>exact let ⟨M,h1,h2⟩:=h;⟨M,h1,h2.mono hm⟩
  | 8,h=>exact h
  | 9,h=>exact h
  | 10,h=>exact trivial
  | _+11,h=>exact trivial
 refine yJ (hmx) [[],[0],[0,1],[0,1,2],[0,1,2],[0,1,2],[0,1,2,4,5],[0,1,2,4,5,6],(ra 0 8),(ra 0 9),(ra 0 10)] [10] (by kernel_rfl) (by kernel_rfl) (fun (aQ:Nat) (v:aj) (G:GH)=>match aQ with|0=>v=vi 0|1=>v=.bool true|2=>v=.bool true|3=>v=.agg E.cells.toArray|4=>v=.agg D.cells.toArray|5=>v=.agg #[.slice aA an ac,.slice rA rn rc]|6=>∃ M:iE,v=M.val∧jP G M (mY (lsB A) (lsB R) d)|7=>∃ M:iE,v=M.val∧jP G M (nD (mY (lsB A) (lsB R) d))|8=>v=.bool true|9=>v=.bool true|_=>True) zw H ?_ ?_
 ·clear H;refine aF ?_ ?_ ?_ ?_ (aF ?_ ?_ ?_ ?_ (bH ?_ (bH ?_ (bH (bQ rfl) cO))))
  ·refine dU [] rfl trivial (by kernel_rfl) zw rfl rfl ?_;intro aS a w G1 hG HT H fin;exact kH H (Rm rfl fun _ H=>fin H iJ rfl)
  ·refine dU [(0,35,_)] rfl ⟨fun _ _ h=>h,bq⟩ (by kernel_rfl) zw rfl rfl ?_;intro aS a w G1 hG HT H fin;exact kH H (Rc rfl fun _ H=>fin H iJ rfl)
  ·refine dU [(1,36,_)] rfl ⟨fun _ _ h=>h,bq⟩ (by kernel_rfl) zw rfl rfl ?_;intro aS a w G1 hG HT H fin;exact kH H (Rm rfl fun _ H=>fin H iJ rfl)
  ·refine dU [(2,37,_)] rfl ⟨fun _ _ h=>h,bq⟩ (by kernel_rfl) zw rfl rfl ?_;intro aS a w G1 hG HT H fin;refine aR iq (cs:=E.cells) H (wg H rfl rfl rfl) rfl rfl (fun j v hj=>H.hp.aI (aH hG (hge j v hj))) rfl ?_;clear H;intro a H;exact fin H iJ rfl
  ·refine dU [(2,37,_)] rfl ⟨fun _ _ h=>h,bq⟩ (by kernel_rfl) zw rfl rfl ?_;intro aS a w G1 hG HT H fin;refine aR iq (cs:=D.cells) H (wg H rfl rfl rfl) rfl rfl (fun j v hj=>H.hp.aI (aH hG (hgd j v hj))) rfl ?_;clear H;intro a H;exact fin H iJ rfl
  ·refine dU [(2,37,_)] rfl ⟨fun _ _ h=>h,bq⟩ (by kernel_rfl) zw rfl rfl ?_;intro aS a w G1 hG HT H fin;refine aR wh (cs:=[.slice aA an ac,.slice rA rn rc]) H (wg H rfl rfl rfl) rfl rfl (fun j v hj=>H.hp.aI (aH hG (hgc j v hj))) rfl ?_;clear H;intro a H;exact fin H iJ rfl
  ·refine dU [(4,39,_),(5,40,_),(2,37,_)] rfl ⟨fun _ _ h=>h,fun _ _ h=>h,fun _ _ h=>h,bq⟩ (by kernel_rfl) zw rfl rfl ?_;intro aS a w G1 hG HT H fin;refine s_call ahc H (wg H rfl rfl rfl) rfl (anK _ _ H.ro D d (hR.mono hG) hs _ _ (hd.mono hG)) rfl ?_;clear H;rintro v41 D7 a w ⟨M41,rfl,aky⟩ akk H;exact fin H akk (⟨M41,rfl,aky⟩)
  ·intro aS a w G1 _ aL hc hG HT hv;have H:=HT;clear aL;obtain ⟨u41,amD,H9⟩:=hv 6 41 (hc 6 (by decide)) rfl;(try dsimp only at H9);obtain ⟨M,rfl,hM⟩:=H9;have H:=H.ig amD;have H:=H.aN (hv 2 37 (hc 2 (by decide)) rfl) rfl;have Hb:=H.full;have H:=Hb;clear hc;refine s_call XM H (wg H rfl rfl rfl) rfl (Xy _ _ H.ro M _ hM hz2 p1 p2 p3 p4) rfl ?_;clear H;rintro v42 LW a w ⟨M42,rfl,akz⟩ Ey H;refine aC ⟨rfl,?_⟩;exact dL (by kernel_rfl) zw rfl rfl HT Hb hG hv Ey (⟨M42,rfl,akz⟩) H
  ·intro aS a w G1 _ aL hc hG HT hv;have H:=HT;clear aL;have H:=H.aN (hv 3 38 (hc 3 (by decide)) rfl) rfl;obtain ⟨u42,amE,ZC⟩:=hv 7 42 (hc 7 (by decide)) rfl;(try dsimp only at ZC);obtain ⟨M,rfl,hM⟩:=ZC;have H:=H.ig amE;have H:=H.aN (hv 2 37 (hc 2 (by decide)) rfl) rfl;have Hb:=H.full;have H:=Hb;clear hc;refine s_call XK H (wg H rfl rfl rfl) rfl (Xx _ _ H.ro E M _ _ (hE.mono hG) hM (by omega)) rfl ?_;clear H;rintro v43 FV a w ⟨Qg,rfl,Nq⟩ akl H;obtain rfl:=Nq.2 rfl;refine aC ⟨rfl,?_⟩;exact dL (by kernel_rfl) zw rfl rfl HT Hb hG hv akl (rfl) H
  refine dU [(2,37,_),(8,43,_)] rfl ⟨fun _ _ h=>h,fun _ _ h=>h,bq⟩ (by kernel_rfl) zw rfl rfl ?_;intro aS a w G1 hG HT H fin;exact kH H (Pt rfl rfl fun _ H=>fin H iJ rfl)
 clear H;intro a w G Hf H hv;have H:=H.aN (hv 9 44 rfl rfl) rfl;clear hv;refine t1 2 H ?_;clear H;refine aP 0 ?_;first|rfl|(simp_all;done)
end
section
open Go.ChangeShapes Go.RowKit Go.Deep
abbrev oH (W:World):GH:=fun k=>W.heap[k]?
theorem ajQ {W:World} {b o:Nat} {v:aj} (h:W.cell? ⟨b,o,none⟩=some v):aI (oH W) b o=some v:=by
 unfold World.cell? at h
 unfold aI oH
 split at h
 ·rename_i c e f hh
  simp only at hh
  rw [hh];simpa using h
 cases h
theorem aar {α:Type} {p:Nat→α→Prop}:∀ n:Nat,(∀ i,i < n→∃ x,p i x)→∃ l:List α,l.length=n∧∀ i x,l[i]?=some x→p i x
 | 0,_=>⟨[],rfl,fun i x h=>by simp at h⟩
 | n+1,h=>by
  obtain ⟨l,hl,hp⟩:=aar n (fun i hi=>h i (by omega));obtain ⟨x,hx⟩:=h n (by omega);refine ⟨l++[x],by simp [hl],fun i y hy=>?_⟩
  by_cases hi:i < l.length
  ·exact hp i y (by rwa [xE hi] at hy)
  rw [rz (by omega)] at hy
  have hin:i - l.length=0:=by
   have:=(jy.1 hy).1
   simp at this;omega
  rw [hin] at hy
  simp only [zW,nJ] at hy
  subst hy;rw [show i=n by omega];exact hx
theorem adS {H:Type} (d:DataW H):1≤Rows.uptoBulk d:=by
 cases d <;> (try simp only [Rows.uptoBulk]) <;> (try omega)
 rename_i x;cases x <;> simp only [Rows.uptoBulk] <;> omega
theorem WJ {H ρ:Type} {dat:ρ→List Dat}:∀ (rs:List ρ) (D:Nat→DataW H),(∀ i r,rs[i]?=some r→bY (dat r)+1≤8*Rows.uptoBulk (D i))→eG (rs.map dat)≤8*Rows.uptoBulkAll ((List.range rs.length).map D)
 | [],D,_=>gN _
 | r :: rs,D,h=>by
  have h0:=h 0 r rfl;have hp:=adS (D 0);have ih:=WJ rs (fun i=>D (i+1)) (fun i r hr=>h (i+1) r (by simpa using hr));rw [kr,List.range_succ_eq_map]
  simp only [eZ,List.map_map,eG,Rows.uptoBulkAll]
  have e:(List.map (D ∘ Nat.succ) (List.range rs.length))=(List.map (fun i=>D (i+1)) (List.range rs.length)):=rfl;rw [e];omega
theorem WI {H:Type} {D:Nat→DataW H}:∀ {n i:Nat},i < n→Rows.uptoBulk (D i)≤Rows.uptoBulkAll ((List.range n).map D)
 | 0,i,h=>absurd h (by omega)
 | n+1,i,h=>by
  have key:∀ (l m:List (DataW H)),Rows.uptoBulkAll (l++m)=Rows.uptoBulkAll l+Rows.uptoBulkAll m:=by
   intro l m
   induction l with
   | nil=>simp [Rows.uptoBulkAll]
   | cons x l ih=>simp only [nu,Rows.uptoBulkAll,ih];omega
  rw [List.range_succ,kM,key]
  by_cases hi:i < n
  ·have:=WI (D:=D) hi;omega
  have:i=n:=by omega
  subst this
  simp only [eZ,qx,Rows.uptoBulkAll];omega
section
variable {H:Type} {enc:TypeId × aj→H} {P:Program} {W:World} {base:Nat} {spare:Nat→Bool} {held:Bool}
theorem tQ {ρ:Type} {dat:ρ→List Dat} {t e:TypeId} {sz:Nat} (hsz:0 < sz) {fuel:Nat} {cs:List aj} {x:DataW H × List MemPlace} (ht:P.underlying t=some (.slice e)) (hc:P.cellsOf e=sz) (h:DataW.trod enc P W base spare held fuel t cs=some x)
  (row:∀ n cs' D Pl,DataW.trod enc P W base spare held n e cs'=some (D,Pl)→Rows.uptoBulk D < Rows.uptoBulk x.1→∃ r:ρ,aU (oH W) (dat r) cs'∧bY (dat r)+1≤8*Rows.uptoBulk D) :
  ∃ (rs:List ρ) (v:aj),cs=[v]∧au (oH W) (.sl sz (rs.map dat)) v∧eG (rs.map dat)+8≤8*Rows.uptoBulk x.1:=by
 rcases open_slice ht h with ⟨rfl,rfl⟩|⟨a,len,cap,m,n,D,Pl,rfl,hb,hl,hm,hmm,rfl,hx⟩
 ·exact ⟨[],_,rfl,au.iH rfl (by decide),by simp [eG,Rows.uptoBulk]⟩
 obtain ⟨rs,hrl,hrs⟩:=aar (p:=fun i (r:ρ)=>∃ cs',W.cells? base (a.add (i*sz)) sz=some cs'∧aU (oH W) (dat r) cs'∧bY (dat r)+1≤8*Rows.uptoBulk (D i)) len (fun i hi=>by
  have him:i < m:=by rw [hmm];split <;> omega
  obtain ⟨cs',h1,h2⟩:=hx i him;rw [hc] at h1;have hb1:=WI (D:=D) hi;obtain ⟨r,hr1,hr2⟩:=row n cs' (D i) (Pl i) h2 (by simp only [Rows.uptoBulk];omega)
  exact ⟨r,cs',h1,hr1,hr2⟩)
 refine ⟨rs,_,rfl,?_,?_⟩
 ·simp only [au,bM]
  refine ⟨some a,cap,by rw [hrl],by omega,hm,fun hne=>?_⟩;obtain ⟨b,off,spot⟩:=a
  have hlen:0 < rs.length:=by cases rs with|nil=>simp at hne|cons _ _=>simp
  obtain ⟨cs0,h1,-,-⟩:=hrs 0 rs[0] (eO hlen);obtain ⟨-,hl0,hg0⟩:=World.cells?_some h1
  have hspot:spot=none:=by
   have h3:=hg0 0 hsz;rw [eO (by omega)] at h3
   simpa [Addr.add] using World.cell?_spot h3
  subst hspot;refine ⟨b,off,rfl,mq.mk fun k r hk=>?_⟩;rw [qM] at hk;obtain ⟨y,hy,rfl⟩:=oO.1 hk;obtain ⟨cs',h2,h3,-⟩:=hrs k y hy;obtain ⟨-,hl1,hg1⟩:=World.cells?_some h2;refine ⟨cs',hl1,fun j u hj=>ajQ ?_,h3⟩
  have hj2:j < sz:=by rw [← hl1];exact (jy.1 hj).1
  have:=hg1 j hj2;rw [add_add,Go.WideShapes.add_plain] at this;rw [show off+k*sz+j=off+(k*sz+j) by omega,this];exact hj
 have:=WJ rs D (fun i r hr=>(hrs i r hr).choose_spec.2.2);rw [hrl] at this
 simp only [Rows.uptoBulk];omega
end
structure qK (P:Program) (t:TypeId) (sz:Nat) (fs:List (TypeId × Nat × Nat)):Prop where
 und:P.underlying t=some (.struct (P.fieldsOf t))
 cells:P.cellsOf t=sz
 C8:(P.fieldsOf t).toList.map (fun f=>(f.type,f.offset,P.cellsOf f.type))=fs
theorem rY {P:Program} {H:Type} {enc:TypeId × aj→H} {W:World} {base:Nat} {spare:Nat→Bool} {held:Bool} {t:TypeId} {sz fuel:Nat} {fs:List (TypeId × Nat × Nat)} {cs:List aj} {x:DataW H × List MemPlace} (hs:qK P t sz fs) (h:DataW.trod enc P W base spare held fuel t cs=some x) :
  ∃ (xs:List (DataW H × List MemPlace)) (n:Nat),x.1=.agg (xs.map (·.1))∧cs.length=sz∧xs.length=fs.length∧∀ (i:Nat) (ti:TypeId) (off k:Nat),fs[i]?=some (ti,off,k)→DataW.trod enc P W base spare held n ti ((cs.drop off).take k)=xs[i]?:=by
 obtain ⟨xs,n,-,rfl,hl,hxl,hf⟩:=DataW.trod_struct hs.und h;refine ⟨xs,n,rfl,by rw [hl,hs.cells],by rw [hxl,← hs.C8];simp,fun i ti off k hi=>?_⟩;rw [← hs.C8,qM] at hi;obtain ⟨f,hf1,hf2⟩:=oO.1 hi
 simp only [gV] at hf2
 obtain ⟨rfl,rfl,rfl⟩:=hf2;exact hf i f (by simpa using hf1)
section
variable {H:Type} {enc:TypeId × aj→H} {W:World} {base:Nat} {spare:Nat→Bool} {held:Bool}
theorem aqP:qK prog 187 2 [(3,0,1),(3,1,1)]:=⟨by kernel_rfl,by kernel_rfl,by kernel_rfl⟩
theorem abk {n:Nat} {cs:List aj} {D:DataW H} {Pl:List MemPlace} (h:DataW.trod enc prog W base spare held n 187 cs=some (D,Pl)):∃ r:aT,aU (oH W) r.dat cs∧bY r.dat+1≤8*Rows.uptoBulk D:=by
 obtain ⟨xs,m,hx,hl,hxl,hf⟩:=rY aqP h
 match cs,hl,xs,hxl with
 | [c0,c1],_,[y0,y1],_ =>
  have h0:=hf 0 _ _ _ rfl;have h1:=hf 1 _ _ _ rfl;obtain ⟨k0,e0,d0,-⟩:=DataW.trod_int underlying3 h0;obtain ⟨k1,e1,d1,-⟩:=DataW.trod_int underlying3 h1
  simp at e0 e1
  subst e0 e1
  simp only at hx
  refine ⟨⟨k0,k1⟩,?_,?_⟩
  ·simp [aU,aT.dat,au,Value.oneCell']
  rw [hx];simp [d0,d1,aT.dat,bY,lu,Rows.uptoBulk,Rows.uptoBulkAll]
theorem aqI:qK prog 159 2 [(3,0,1),(3,1,1)]:=⟨by kernel_rfl,by kernel_rfl,by kernel_rfl⟩
theorem aoS {n:Nat} {cs:List aj} {D:DataW H} {Pl:List MemPlace} (h:DataW.trod enc prog W base spare held n 159 cs=some (D,Pl)):∃ r:fF,aU (oH W) r.dat cs∧bY r.dat+1≤8*Rows.uptoBulk D:=by
 obtain ⟨xs,m,hx,hl,hxl,hf⟩:=rY aqI h
 match cs,hl,xs,hxl with
 | [c0,c1],_,[y0,y1],_ =>
  have h0:=hf 0 _ _ _ rfl;have h1:=hf 1 _ _ _ rfl;obtain ⟨k0,e0,d0,-⟩:=DataW.trod_int underlying3 h0;obtain ⟨k1,e1,d1,-⟩:=DataW.trod_int underlying3 h1
  simp at e0 e1
  subst e0 e1
  simp only at hx
  refine ⟨⟨k0,k1⟩,?_,?_⟩
  ·simp [aU,fF.dat,au,Value.oneCell']
  rw [hx];simp [d0,d1,fF.dat,bY,lu,Rows.uptoBulk,Rows.uptoBulkAll]
theorem aqL:qK prog 161 4 [(3,0,1),(3,1,1),(3,2,1),(4,3,1)]:=⟨by kernel_rfl,by kernel_rfl,by kernel_rfl⟩
theorem aoV {n:Nat} {cs:List aj} {D:DataW H} {Pl:List MemPlace} (h:DataW.trod enc prog W base spare held n 161 cs=some (D,Pl)):∃ r:cK,aU (oH W) r.dat cs∧bY r.dat+1≤8*Rows.uptoBulk D:=by
 obtain ⟨xs,m,hx,hl,hxl,hf⟩:=rY aqL h
 match cs,hl,xs,hxl with
 | [c0,c1,c2,c3],_,[y0,y1,y2,y3],_ =>
  have h0:=hf 0 _ _ _ rfl;have h1:=hf 1 _ _ _ rfl;have h2:=hf 2 _ _ _ rfl;have h3:=hf 3 _ _ _ rfl;obtain ⟨k0,e0,d0,-⟩:=DataW.trod_int underlying3 h0;obtain ⟨k1,e1,d1,-⟩:=DataW.trod_int underlying3 h1;obtain ⟨k2,e2,d2,-⟩:=DataW.trod_int underlying3 h2;obtain ⟨k3,e3,d3⟩:=DataW.trod_bool underlying4 h3
  simp at e0 e1 e2 e3
  subst e0 e1 e2 e3
  simp only at hx
  refine ⟨⟨k0,k1,k2,k3⟩,?_,?_⟩
  ·simp [aU,cK.dat,au,Value.oneCell']
  rw [hx];simp [d0,d1,d2,d3,cK.dat,bY,lu,Rows.uptoBulk,Rows.uptoBulkAll]
theorem aqO:qK prog 27 4 [(3,0,1),(3,1,1),(24,2,1),(25,3,1)]:=⟨by kernel_rfl,by kernel_rfl,by kernel_rfl⟩
theorem aqJ:qK prog 29 5 [(23,0,1),(27,1,4)]:=⟨by kernel_rfl,by kernel_rfl,by kernel_rfl⟩
theorem WW:prog.cellsOf 187=2:=by kernel_rfl
theorem ael:prog.cellsOf 159=2:=by kernel_rfl
theorem aen:prog.cellsOf 161=4:=by kernel_rfl
theorem Oz {n:Nat} {cs:List aj} {x:DataW H × List MemPlace} (h:DataW.trod enc prog W base spare held n 29 cs=some x):∃ (r:dW) (p d l:aj),cs=[p,vi r.marks.ins,vi r.marks.move,d,l]∧fD (oH W) r p d l∧kU r+15≤8*Rows.uptoBulk x.1:=by
 obtain ⟨xs,m,hx,hl,hxl,hf⟩:=rY aqJ h
 match cs,hl,xs,hxl with
 | [c0,c1,c2,c3,c4],_,[y0,y1],_ =>
  have h0:=hf 0 _ _ _ rfl;have h1:=hf 1 _ _ _ rfl;obtain ⟨ps,pv,e0,rp,sp⟩:=tQ (dat:=aT.dat) (sz:=2) (by omega) underlying23 WW h0 (fun n cs' D Pl hh _=>abk hh);obtain ⟨zs,m2,hz,hzl,hzx,Kt⟩:=rY aqO h1
  match zs,hzx with
  | [z0,z1,z2,z3],_ =>
   have g0:=Kt 0 _ _ _ rfl;have g1:=Kt 1 _ _ _ rfl;have g2:=Kt 2 _ _ _ rfl;have g3:=Kt 3 _ _ _ rfl;obtain ⟨k0,e1,d0,-⟩:=DataW.trod_int underlying3 g0;obtain ⟨k1,e2,d1,-⟩:=DataW.trod_int underlying3 g1;obtain ⟨ds,dv,e3,rd,sd⟩:=tQ (dat:=fF.dat) (sz:=2) (by omega) underlying24 ael g2 (fun n cs' D Pl hh _=>aoS hh);obtain ⟨ls,lv,e4,rl,sl⟩:=tQ (dat:=cK.dat) (sz:=4) (by omega) underlying25 aen g3 (fun n cs' D Pl hh _=>aoV hh)
   simp at e0 e1 e2 e3 e4
   subst e0 e1 e2 e3 e4;refine ⟨⟨ps,⟨k0,k1,ds,ls⟩⟩,_,_,_,rfl,⟨rp,rd,rl⟩,?_⟩;have Z9:=DW ⟨ps,⟨k0,k1,ds,ls⟩⟩
   simp only at Z9
   rw [hx]
   simp only [eZ,qx,Rows.uptoBulk,Rows.uptoBulkAll,hz,d0,d1]
   omega
theorem aqK:qK prog 68 11 [(3,0,1),(3,1,1),(3,2,1),(9,3,1),(29,4,5),(22,9,1),(66,10,1)]:=⟨by kernel_rfl,by kernel_rfl,by kernel_rfl⟩
theorem aqQ:qK prog 74 6 [(29,0,5),(72,5,1)]:=⟨by kernel_rfl,by kernel_rfl,by kernel_rfl⟩
theorem aqG:qK prog 76 7 [(3,0,1),(29,1,5),(22,6,1)]:=⟨by kernel_rfl,by kernel_rfl,by kernel_rfl⟩
theorem Qm:prog.cellsOf 68=11:=by kernel_rfl
theorem aer:prog.cellsOf 74=6:=by kernel_rfl
theorem aej:prog.cellsOf 76=7:=by kernel_rfl
theorem abj:∀ (N:Nat) (n:Nat) (cs:List aj) (D:DataW H) (Pl:List MemPlace),DataW.trod enc prog W base spare held n 68 cs=some (D,Pl)→Rows.uptoBulk D < N→∃ r:ay,aU (oH W) r.dat cs∧bY r.dat+1≤8*Rows.uptoBulk D
 | 0,_,_,_,_,_,hN=>absurd hN (by omega)
 | N+1,n,cs,D,Pl,h,hN=>by
  have ih:=abj N;obtain ⟨xs,m,hx,hl,hxl,hf⟩:=rY aqK h
  match cs,hl,xs,hxl with
  | [c0,c1,c2,c3,c4,c5,c6,c7,c8,c9,c10],_,[y0,y1,y2,y3,y4,y5,y6],_ =>
   have h0:=hf 0 _ _ _ rfl;have h1:=hf 1 _ _ _ rfl;have h2:=hf 2 _ _ _ rfl;have h3:=hf 3 _ _ _ rfl;have h4:=hf 4 _ _ _ rfl;have h5:=hf 5 _ _ _ rfl;have h6:=hf 6 _ _ _ rfl
   simp only at hx
   have hD:Rows.uptoBulk D=Rows.uptoBulk y0.1+(Rows.uptoBulk y1.1+(Rows.uptoBulk y2.1+(Rows.uptoBulk y3.1+(Rows.uptoBulk y4.1+(Rows.uptoBulk y5.1+(Rows.uptoBulk y6.1+0))))))+1:=by
    rw [hx];simp only [eZ,qx,Rows.uptoBulk,Rows.uptoBulkAll]
   obtain ⟨k0,e0,d0,-⟩:=DataW.trod_int underlying3 h0;obtain ⟨k1,e1,d1,-⟩:=DataW.trod_int underlying3 h1;obtain ⟨k2,e2,d2,-⟩:=DataW.trod_int underlying3 h2;obtain ⟨s,e3,d3,-⟩:=DataW.trod_string underlying9 h3;obtain ⟨hd,p,d,l,e4,rh,sh⟩:=Oz h4;obtain ⟨fl,fv,e5,rf,sf⟩:=tQ (dat:=ay.dat) (sz:=11) (by omega) underlying22 Qm h5 (fun n cs' D' dJ hh hlt=>ih n cs' D' dJ hh (by omega))
   obtain ⟨rs,rv,e6,rr,sr⟩:=tQ (dat:=aV.dat) (sz:=6) (by omega) underlying66 aer h6 (fun n cs' D' dJ hh hlt=>by
    obtain ⟨xs,m,hx,hl,hxl,hf⟩:=rY aqQ hh
    match cs',hl,xs,hxl with
    | [a0,a1,a2,a3,a4,a5],_,[w0,w1],_ =>
     have g0:=hf 0 _ _ _ rfl;have g1:=hf 1 _ _ _ rfl
     simp only at hx
     have hD':Rows.uptoBulk D'=Rows.uptoBulk w0.1+(Rows.uptoBulk w1.1+0)+1:=by
      rw [hx];simp only [eZ,qx,Rows.uptoBulk,Rows.uptoBulkAll]
     obtain ⟨hd2,p2,d2',l2,q0,rh2,sh2⟩:=Oz g0
     obtain ⟨cl,cv,q1,rc,sc⟩:=tQ (dat:=bB.dat) (sz:=7) (by omega) underlying72 aej g1 (fun n cs'' D'' asJ EG hlt2=>by
      obtain ⟨xs,m,hx2,hl2,amN,hf2⟩:=rY aqG EG
      match cs'',hl2,xs,amN with
      | [b0,b1,b2,b3,b4,b5,b6],_,[v0,v1,v2],_ =>
       have u0:=hf2 0 _ _ _ rfl;have u1:=hf2 1 _ _ _ rfl;have u2:=hf2 2 _ _ _ rfl
       simp only at hx2
       have asP:Rows.uptoBulk D''=Rows.uptoBulk v0.1+(Rows.uptoBulk v1.1+(Rows.uptoBulk v2.1+0))+1:=by
        rw [hx2];simp only [eZ,qx,Rows.uptoBulk,Rows.uptoBulkAll]
       obtain ⟨j0,t0,z0,-⟩:=DataW.trod_int underlying3 u0;obtain ⟨hd3,p3,d3',l3,t1,rh3,sh3⟩:=Oz u1;obtain ⟨RF,fv3,t2,rf3,sf3⟩:=tQ (dat:=ay.dat) (sz:=11) (by omega) underlying22 Qm u2 (fun n cs3 D3 Pl3 hh3 hlt3=>ih n cs3 D3 Pl3 hh3 (by omega))
       simp at t0 t1 t2
       obtain ⟨rfl,rfl,rfl,rfl,rfl⟩:=t1;subst t0 t2;have hz:=Cy (bB.mk j0 hd3 RF)
       simp only [bB.head,bB.flow] at hz
       have bz:Rows.uptoBulk v0.1=1:=by rw [z0];rfl
       exact ⟨bB.mk j0 hd3 RF,aU.KD (x:=bB.mk j0 hd3 RF) rh3 rf3,by simp only [bZ] at hz;omega⟩)
     simp at q0 q1
     obtain ⟨rfl,rfl,rfl,rfl,rfl⟩:=q0;subst q1;have hz:=Cz (aV.mk hd2 cl)
     simp only [aV.head,aV.cells] at hz
     exact ⟨aV.mk hd2 cl,aU.KE (x:=aV.mk hd2 cl) rh2 rc,by simp only [iI] at hz;omega⟩)
   simp at e0 e1 e2 e3 e4 e5 e6
   obtain ⟨rfl,rfl,rfl,rfl,rfl⟩:=e4;subst e0 e1 e2 e3 e5 e6;have hz:=yB (ay.mk k0 k1 k2 s hd fl rs)
   simp only [ay.text,ay.head,ay.flow,ay.rows] at hz
   have b0:Rows.uptoBulk y0.1=1:=by rw [d0];rfl
   have b1:Rows.uptoBulk y1.1=1:=by rw [d1];rfl
   have b2:Rows.uptoBulk y2.1=1:=by rw [d2];rfl
   have b3:Rows.uptoBulk y3.1=s.size+1:=by rw [d3];show s.data.toList.length+1=s.data.size+1;rw [sK]
   exact ⟨ay.mk k0 k1 k2 s hd fl rs,aU.mkItem (x:=ay.mk k0 k1 k2 s hd fl rs) rh rf rr,by simp only [bZ,gH] at hz;omega⟩
theorem aoU {n:Nat} {cs:List aj} {x:DataW H × List MemPlace} (h:DataW.trod enc prog W base spare held n 22 cs=some x):∃ (l:List ay) (v:aj),cs=[v]∧au (oH W) (.sl 11 (l.map ay.dat)) v∧bZ l+8≤8*Rows.uptoBulk x.1 :=
 tQ (dat:=ay.dat) (sz:=11) (by omega) underlying22 Qm h (fun n cs' D' dJ hh _=>abj _ n cs' D' dJ hh (Nat.lt_succ_self _))
end
end
end Go.Proofs.YtdiflmikikiedaaGreat
