/-
  What the claim stands on, part 5: Rs24 Iat Bi13 Mk24 Mg24 Gco De24 Dnn Rw24 Ni13 Mn Lay Srt Ms Ids Usd Rf0 Dlr Ccl Cst Dcl.
-/
import Derived.Test.YtdiflmikikiedaaGreatWld
import Derived.Shelf.SlIterI.Nil
import Derived.Shelf.SortM.Plain
import Derived.Shelf.SortM.SortNone
namespace Go.Proofs.YtdiflmikikiedaaGreat
set_option linter.all false
open Go.Proofs.Tryz
open Go.RowKit
section
mutual
def mK (acc rej:Int->Bool):ak->List ak
 | .mk k c i tx h f r=>if lS acc rej h then [] else if k=6 then [.mk k c i tx (gL acc rej h) (bZ acc rej f) r] else if k=7 then (if (fZ acc rej r).length=0 then [] else [.mk k c i tx (gL acc rej h) f (fZ acc rej r)]) else [.mk k c i tx (gL acc rej h) f r]
def nS (acc rej:Int->Bool):aO->List aO
 | .mk h cs=>if lS acc rej h then [] else if (fK acc rej cs).length=0 then [] else [.mk (gL acc rej h) (fK acc rej cs)]
def oz (acc rej:Int->Bool):aQ->List aQ
 | .mk i h f=>if lS acc rej h then [] else [.mk i (gL acc rej h) (bZ acc rej f)]
def bZ (acc rej:Int->Bool):List ak->List ak
 | []=>[]
 | x :: l=>mK acc rej x++bZ acc rej l
def fZ (acc rej:Int->Bool):List aO->List aO
 | []=>[]
 | x :: l=>nS acc rej x++fZ acc rej l
def fK (acc rej:Int->Bool):List aQ->List aQ
 | []=>[]
 | x :: l=>oz acc rej x++fK acc rej l
end
variable {acc rej:Int->Bool}
theorem OX (x:ak):mK acc rej x=if lS acc rej x.head then [] else if x.kind=6 then [.mk x.kind x.code x.id x.text (gL acc rej x.head) (bZ acc rej x.flow) x.rows] else if x.kind=7 then (if (fZ acc rej x.rows).length=0 then [] else [.mk x.kind x.code x.id x.text (gL acc rej x.head) x.flow (fZ acc rej x.rows)]) else [.mk x.kind x.code x.id x.text (gL acc rej x.head) x.flow x.rows]:=by cases x;rw [mK];rfl
theorem aah (x:aO):nS acc rej x=if lS acc rej x.head then [] else if (fK acc rej x.cells).length=0 then [] else [.mk (gL acc rej x.head) (fK acc rej x.cells)]:=by cases x;rw [nS];rfl
theorem aad (x:aQ):oz acc rej x=if lS acc rej x.head then [] else [.mk x.id (gL acc rej x.head) (bZ acc rej x.flow)]:=by cases x;rw [oz];rfl
theorem TD:∀ a b:List ak,bZ acc rej (a++b)=bZ acc rej a++bZ acc rej b
 | [],b=>by simp [bZ]
 | x :: a,b=>by simp [bZ,TD a b]
theorem aai:∀ a b:List aO,fZ acc rej (a++b)=fZ acc rej a++fZ acc rej b
 | [],b=>by simp [fZ]
 | x :: a,b=>by simp [fZ,aai a b]
theorem aae:∀ a b:List aQ,fK acc rej (a++b)=fK acc rej a++fK acc rej b
 | [],b=>by simp [fK]
 | x :: a,b=>by simp [fK,aae a b]
theorem Mq {l:List ak} {k:Nat} (h:k < l.length):bZ acc rej (l.take (k+1))=bZ acc rej (l.take k)++mK acc rej l[k]:=by rw [jK h,TD];simp [bZ]
theorem TF {l:List aO} {k:Nat} (h:k < l.length):fZ acc rej (l.take (k+1))=fZ acc rej (l.take k)++nS acc rej l[k]:=by rw [jK h,aai];simp [fZ]
theorem TA {l:List aQ} {k:Nat} (h:k < l.length):fK acc rej (l.take (k+1))=fK acc rej (l.take k)++oz acc rej l[k]:=by rw [jK h,aae];simp [fK]
theorem aBq (x:ak):(mK acc rej x).length<=1:=by rw [OX];(repeat' split) <;> simp
theorem aBt (x:aO):(nS acc rej x).length<=1:=by rw [aah];(repeat' split) <;> simp
theorem aBm (x:aQ):(oz acc rej x).length<=1:=by rw [aad];split <;> simp
theorem akD:∀ l:List ak,(bZ acc rej l).length<=l.length
 | []=>by simp [bZ]
 | x :: l=>by rw [bZ,gF];have:=aBq (acc:=acc) (rej:=rej) x;have:=akD l;simp only [kR];omega
theorem aaj:∀ l:List aO,(fZ acc rej l).length<=l.length
 | []=>by simp [fZ]
 | x :: l=>by rw [fZ,gF];have:=aBt (acc:=acc) (rej:=rej) x;have:=aaj l;simp only [kR];omega
theorem aaf:∀ l:List aQ,(fK acc rej l).length<=l.length
 | []=>by simp [fK]
 | x :: l=>by rw [fK,gF];have:=aBm (acc:=acc) (rej:=rej) x;have:=aaf l;simp only [kR];omega
theorem Z6:∀ l:List aN,dM (l.map aN.dat)=3*l.length
 | []=>by simp [dM]
 | p :: l=>by rw [dO,dM,Z6 l];simp [aN.dat,bX,nU];omega
theorem WE:∀ l:List gT,dM (l.map gT.dat)=3*l.length
 | []=>by simp [dM]
 | p :: l=>by rw [dO,dM,WE l];simp [gT.dat,bX,nU];omega
theorem ZH:∀ l:List bW,dM (l.map bW.dat)=5*l.length
 | []=>by simp [dM]
 | p :: l=>by rw [dO,dM,ZH l];simp [bW.dat,bX,nU];omega
theorem afb (props:List aN):∀ (L:List (Int × List bW)) (s:List aN × List bW),(uq acc rej props L s).1.length<=s.1.length+L.length∧(uq acc rej props L s).2.length<=s.2.length+(L.flatMap Prod.snd).length
 | [],s=>by simp [uq]
 | (k,l) :: r,s=>by
  rw [uq];obtain ⟨h1,h2⟩:=afb props r (vN s.1 k (mO acc rej props k l).2,s.2++(mO acc rej props k l).1);have h3:=ams s.1 k (mO acc rej props k l).2;have h4:=Xz acc rej props k l;dsimp only at h1 h2;rw [gF] at h2
  simp only [kR,List.flatMap_cons,gF]
  omega
theorem aus {f:Nat} {l:List bW} (h:l.length<=f):(rX f l).length<=l.length:=by
 obtain ⟨h1,h2⟩:=Io f l h
 have key:∀ (L:List (Int × List bW)),(∀ q∈L,q.2≠[])->L.length<=(L.flatMap Prod.snd).length:=by
  intro L
  induction L with
  | nil=>intro _;exact kY _
  | cons q L ih =>
   intro hq;have:=ih fun x hx=>hq x (gI _ hx);have h3:=List.length_pos_iff.2 (hq q dV)
   simp only [kR,List.flatMap_cons,gF];omega
 have:=key _ h2
 rwa [h1] at this
theorem QU (h:dD):nH (gL acc rej h)<=2*nH h:=by
 rw [GJ,GJ,Z6,WE,ZH,Z6,WE,ZH];obtain ⟨h1,h2⟩:=afb (acc:=acc) (rej:=rej) h.props (rX h.marks.layers.length h.marks.layers) (h.props,[]);have h3:=aus (dS h.marks.layers.length);rw [(Io _ _ (dS _)).1] at h2;have h4:=List.length_filter_le (fun x:gT=>!rej x.rev) h.marks.bD
 simp only [gL,List.length_nil] at h1 h2 |-
 omega
mutual
theorem aBz:∀ x:ak,bq (mK acc rej x)<=2*(1+bX x.dat)
 | .mk k c i tx h f r=>by
  have hf:=TH f;have hr:=akH r;have hh:=QU (acc:=acc) (rej:=rej) h;have e:=uP (.mk k c i tx h f r)
  simp only [ak.text,ak.head,ak.flow,ak.rows] at e
  have one:∀ y:ak,bq [y]=1+bX y.dat:=fun y=>by simp [bq,dM]
  rw [mK]
  split
  ·simp [bq,dM]
  split
  ·rw [one,uP];simp only [ak.text,ak.head,ak.flow,ak.rows];omega
  split
  ·split
   ·simp [bq,dM]
   rw [one,uP];simp only [ak.text,ak.head,ak.flow,ak.rows];omega
  rw [one,uP];simp only [ak.text,ak.head,ak.flow,ak.rows];omega
theorem aBA:∀ x:aO,fQ (nS acc rej x)<=2*(1+bX x.dat)
 | .mk h cs=>by
  have hc:=akG cs;have hh:=QU (acc:=acc) (rej:=rej) h;have e:=zP (.mk h cs)
  simp only [aO.head,aO.cells] at e
  rw [nS]
  split
  ·simp [fQ,dM]
  split
  ·simp [fQ,dM]
  simp only [fQ,dO,qZ,dM];rw [zP];simp only [aO.head,aO.cells];omega
theorem aBy:∀ x:aQ,gH (oz acc rej x)<=2*(1+bX x.dat)
 | .mk i h f=>by
  have hf:=TH f;have hh:=QU (acc:=acc) (rej:=rej) h;have e:=zO (.mk i h f)
  simp only [aQ.head,aQ.flow] at e
  rw [oz]
  split
  ·simp [gH,dM]
  simp only [gH,dO,qZ,dM];rw [zO];simp only [aQ.head,aQ.flow];omega
theorem TH:∀ l:List ak,bq (bZ acc rej l)<=2*bq l
 | []=>by simp [bZ,bq,dM]
 | x :: l=>by
  have h1:=aBz x;have h2:=TH l;rw [bZ,Pz,show bq (x :: l)=1+bX x.dat+bq l by simp [bq,dM]];omega
theorem akH:∀ l:List aO,fQ (fZ acc rej l)<=2*fQ l
 | []=>by simp [fZ,fQ,dM]
 | x :: l=>by
  have h1:=aBA x;have h2:=akH l;rw [fZ,show ∀ a b:List aO,fQ (a++b)=fQ a+fQ b from fun a b=>by rw [fQ,ji,Dp],show fQ (x :: l)=1+bX x.dat+fQ l by simp [fQ,dM]];omega
theorem akG:∀ l:List aQ,gH (fK acc rej l)<=2*gH l
 | []=>by simp [fK,gH,dM]
 | x :: l=>by
  have h1:=aBy x;have h2:=akG l;rw [fK,show ∀ a b:List aQ,gH (a++b)=gH a+gH b from fun a b=>by rw [gH,ji,Dp],show gH (x :: l)=1+bX x.dat+gH l by simp [gH,dM]];omega
end
end
theorem acM {p:Prop} (h:p:=by
 simp only [aX] at h4
 obtain ⟨_,_,rfl,⟨rfl,-⟩,rfl⟩:=h4;exact ⟨b,o,h1,by simpa using h3 0 _ M⟩):p:=h
theorem LX {G:GH} {α:Type} {f:α->Int} {A:List α} {B:Option Addr} {n c k:Nat} (hv:av G (.sl 1 (A.map fun q=>[li (f q)])) (.slice B n c)) (hk:k < A.length):∃ b o,B=some ⟨b,o,none⟩∧aI G b (o+k)=some (vi (f A[k])):=by
 obtain ⟨b,o,cs,h1,h2,h3,h4⟩:=hv.at_ k [li (f A[k])] (by simp [hk])
 exact acM
theorem aqw:aR 114:=aS func114 M
theorem aqx:aR 115:=aS func115 M
theorem Y3 {p:Nat->Bool} (hp:∀ h,p h=true->p (h+1)=true):∀ (f i j:Nat),i<=j->j - i<=f->(∀ h,i<=h->h < ng p f i j->p h=false)∧(ng p f i j < j->p (ng p f i j)=true)
 | 0,i,j,h1,h2=>⟨fun h a b=>by simp only [ng] at b;omega,fun h=>by simp only [ng] at h;omega⟩
 | f+1,i,j,h1,h2=>by
  have up:∀ a b,a<=b->p a=true->p b=true:=fun a b hab=>by
   induction hab with
   | refl=>exact fun h=>h
   | step _ ih=>exact fun h=>hp _ (ih h)
  rw [ng]
  by_cases h:i < j
  ·rw [ay h]
   cases hm:p ((i+j) / 2)
   ·rw [au (by simp)];obtain ⟨r1,r2⟩:=Y3 hp f ((i+j) / 2+1) j O O;refine ⟨fun q a b=>?_,r2⟩
    by_cases hq:(i+j) / 2+1<=q
    ·exact r1 q hq b
    cases hpq:p q
    ·rfl
    rw [up q _ O hpq] at hm;cases hm
   rw [ay M];obtain ⟨r1,r2⟩:=Y3 hp f i ((i+j) / 2) O O;refine ⟨r1,fun _=>?_⟩
   by_cases hq:ng p f i ((i+j) / 2) < (i+j) / 2
   ·exact r2 hq
   have:=Sl (p:=p) f i ((i+j) / 2) O;rw [show ng p f i ((i+j) / 2)=(i+j) / 2 by omega];exact hm
  rw [au h];exact ⟨fun q a b=>by omega,fun q=>absurd q h⟩
theorem aen {l:List Int} (hs:l.Pairwise (·<=·)) (t:Int):(∀ h (hh:h < l.length),h < gY l t->l[h] < t)∧∀ hh:gY l t < l.length,t<=l[gY l t]:=by
 -- the test,as if the list went on with its last number
 let p:Nat->Bool:=fun h=>decide (¬ l.getD h 0 < t)
 let p':Nat->Bool:=fun h=>decide (l.length<=h∨¬ l.getD h 0 < t)
 have hpp:∀ (f i j:Nat),j<=l.length->i<=j->ng p f i j=ng p' f i j:=by
  intro f
  induction f with
  | zero=>intro i j _ _;rfl
  | succ f ih =>
   intro i j hj hij;rw [ng,ng]
   by_cases h:i < j
   ·rw [ay h,ay h]
    have e:p ((i+j) / 2)=p' ((i+j) / 2):=by
     show decide _=decide _
     exact decide_eq_decide.2 ⟨.inr,fun h=>h.resolve_left O⟩
    rw [e,ih _ _ O O,ih _ _ hj O]
   rw [au h,au h]
 have hmono:∀ h,p' h=true->p' (h+1)=true:=fun h e=>by
  have e:=rT e;refine mY ?_
  by_cases h1:l.length<=h+1
  ·exact .inl h1
  refine .inr ?_;have e2:=e.resolve_left O;have h3:=List.pairwise_iff_getElem.1 hs h (h+1) O O (Nat.lt_succ_self _);rw [List.getD_eq_getElem?_getD,eB (show h < l.length by omega)] at e2;rw [List.getD_eq_getElem?_getD,eB (show h+1 < l.length by omega)]
  simp only [Option.getD_some] at e2 |-
  omega
 obtain ⟨r1,r2⟩:=Y3 hmono l.length 0 l.length (kY _) O;have hn:gY l t=ng p' l.length 0 l.length:=hpp _ _ _ (dS _) (kY _);rw [<- hn] at r1 r2;refine ⟨fun h hh h1=>?_,fun hh=>?_⟩
 ·have h2:=of_decide_eq_false (r1 h (kY _) h1);rw [List.getD_eq_getElem?_getD,eB hh] at h2
  simp only [Option.getD_some] at h2
  omega
 have h2:=(rT (r2 hh)).resolve_left O;rw [List.getD_eq_getElem?_getD,eB hh] at h2
 simp only [Option.getD_some] at h2
 omega
theorem NZ {l:List Int} (hs:l.Pairwise (·<=·)) (t:Int):qm l t=decide (t∈l):=by
 rw [Ck,lD]
 constructor
 ·intro h;exact lZ (rT h)
 intro h;obtain ⟨k,hk,rfl⟩:=List.getElem_of_mem h;obtain ⟨r1,r2⟩:=aen hs l[k]
 have hkn:gY l l[k]<=k:=by
  by_cases h:gY l l[k]<=k
  ·exact h
  have:=r1 k hk O;omega
 have h2:=r2 O
 have h3:l[gY l l[k]]<=l[k]:=by
  rcases Nat.lt_or_eq_of_le hkn with h|h
  ·exact List.pairwise_iff_getElem.1 hs _ _ O hk h
  exact Int.le_of_eq (getElem_congr_idx h)
 exact mY (by rw [eB (by omega:gY l l[k] < l.length)];exact cO some O)
theorem ayV (G:GH) (w0:World) (hG:Hold G w0) (x y:Int):Calls prog 114 #[vi x,vi y] w0 (bE w0 G fun u G'=>u=.bool (decide (x < y))∧G=G'):=by
 refine eN [(0,_),(1,_)] func114 M ntmps114 M M hG ?_;intro a H;refine kP H (SR fun _ K1=>aj K1 M (SR fun _ K2=>Rm M ?_));clear H K1;intro a H;refine s_call WK H wn M (Zd _ _ H.ro x) M ?_;clear H;rintro v6 G6 a w ⟨rfl,rfl⟩ Eo H;refine kH H (Rm M (Sp 7 M ?_ ?_)) <;> clear H
 ·intro h7 a H
  cases h7
 intro h7 a H
 refine kH H (bH h7 M (Pf h7 M (Rm M ?_)));clear H;intro a H;(iterate 2 refine Jy H (wg H M M M) M M ?_;clear H;intro a H);refine Jv H (wg H M M M) M M M M ?_;clear H;intro a H;exact kH H (Pf M M (aj K2 M (LR results114 M fun H=>H.rt ⟨M,M⟩)))
theorem ayv (G:GH) (w0:World) (hG:Hold G w0) (x:Int):Calls prog 115 #[vi x] w0 (bE w0 G fun u G'=>u=.bool false∧G=G'):=by
 refine eN [(0,_)] func115 M ntmps115 M M hG ?_;intro a H;exact kP H (SR fun _ K1=>aj K1 M (SR fun _ K2=>Rm M (Rm M (Rc M (aj K2 M (LR results115 M fun H=>H.rt ⟨by simp,M⟩))))))
theorem Vj {p:Prop} (h:p:=by
 first
  | exact H.rt ⟨by rw [ahq heq.symm O,<- heq];simp_all [aeM],M⟩
  | exact H.rt ⟨by rw [ahr heq.symm O,<- heq],M⟩):p:=h
theorem aog (G:GH) (w0:World) (hG:Hold G w0) (l:List Int) (t:Int) (v:ah) (hv:av G (.sl 1 (l.map fun k=>[li k])) v) (hl:l.length<=4294967296) :
  Calls prog 62 #[v,vi t] w0 (bE w0 G fun u G'=>u=.tuple #[vi (gY l t),.bool (qm l t)]∧G=G'):=by
 obtain ⟨A,c,rfl,hc1,hc2,-⟩:=hv.slice;rw [bK] at *;obtain ⟨p,hp⟩:∃ p:Nat->Bool,p=fun h=>decide (¬ l.getD h 0 < t):=⟨_,M⟩
 have hbs:gY l t=ng p l.length 0 l.length:=by rw [hp,gY]
 refine eN [(0,_),(1,_)] func62 M ntmps62 M M hG ?_;intro a H;refine kP H (SR fun _ K1=>Ra M (aj K1 M (SR fun _ K2=>Rm M (Rl mD M (aj K2 M (SR fun _ K3=>Rm M (Ra M (aj K3 M (SQ fun _ K4=>SB ?_)))))))));clear H K1 K2 K3;intro a H;skip;refine fD (ι:=Nat × Nat × Nat) (Tc:=[(0,_),(1,_),(6,_)]) (Lc:=[]) (fun gh=>[(7,vi gh.1),(8,vi gh.2.1)]) (fun gh=>[]) (fun gh=>G) (fun gh=>gh.1<=gh.2.1∧gh.2.1<=l.length∧gh.2.1 - gh.1<=gh.2.2∧ng p gh.2.2 gh.1 gh.2.1=gY l t) (fun gh=>gh.2.1 - gh.1) ((0,l.length,l.length)) (by exact H.sub ⟨M,M,M,M,M,aC⟩) ?_ ?_
 ·exact ⟨kY _,dS _,Nat.sub_le _ _,hbs.symm⟩
 clear H;rintro ⟨i,j,f⟩ a w hI H;dsimp only at hI H;obtain ⟨hij,hj,hf1,heq⟩:=hI;dsimp only [lca,bM] at H;refine kP H (SQ fun _ K5=>SR fun _ K6=>Rm M (Rm M (Rc M (Kz K6 (Cd M ?_ ?_))))) <;> clear H K6
 ·intro jC a H
  try have sD:=dT jC
  have hlt:i < j:=by omega
  rw [Y4 hf1 hlt] at heq;obtain ⟨m,hm⟩:∃ m,m=(i+j) / 2:=⟨_,M⟩;rw [<- hm] at heq
  have hml:m < l.length:=by omega
  obtain ⟨b,o,rfl,hrow⟩:=LX (f:=fun q=>q) hv hml
  replace hrow:aI G b (o+m*1)=some (vi l[m]):=by rw [Nat.mul_one];exact hrow
  have hpm:p m=decide (¬ l[m] < t):=by rw [hp];simp [List.getD,hml]
  rw [hpm] at heq;refine kP H (Kc K5 (SB (SR fun _ K7=>Rm M (Rm M (Rd M ?_)))));clear H K5;intro a H;rw [show ((i:Int)+(j:Int))=((i+j:Nat):Int) by push_cast;rfl] at H;refine Df ((i+j:Nat):Int) ME mX H wn M (Y5 O O) M ?_;clear H;intro a H;refine TQ _ H wn M M M Z M ?_;clear H;intro a H;rw [Y2,<- hm] at H;refine Df (m:Int) mX ME H wn M (I9 O O) M ?_;clear H;intro a H;refine kH H (aj K7 M (SR fun _ K8=>Rm M (Rm M (Ri mD aF M M (Rg aF M (by assumption) ?_)))));clear H K7;intro a H;refine kH H (Rm M ?_);clear H;intro a H;refine s_call aqw H wn M (ayV _ _ H.ro l[m] t) M ?_;clear H;rintro v27 G27 a w ⟨rfl,rfl⟩ ahN H;refine K8 _ _ ?_;clear K8;refine jL H M ?_ ?_
  ·intro h27
   try have p27:=dT h27
   rw [au (by simpa using p27)] at heq;refine kP H (SC (Rm M (Rd M (Ra M ?_))));clear H;intro a H;refine aD ?_;refine dQ ((m+1,j,f - 1)) (by exact H.sub ⟨M,M,M,M,M,aC⟩) ?_
   (try dsimp only);exact ⟨O,hj,O,heq⟩
  intro h27
  try have p27:=dF h27
  rw [ay (by simpa using p27)] at heq;refine kP H (SC (Rm M (Ra M ?_)));clear H;intro a H;refine aD ?_;refine dQ ((i,m,f - 1)) (by exact H.sub ⟨M,M,M,M,M,aC⟩) ?_
  (try dsimp only);exact ⟨O,O,O,heq⟩
 intro jC a H
 try have sD:=dF jC
 refine dY ?_;refine K4 _ _ ?_;clear K4;refine bL (fun _ K9=>?_);rw [Y1 O] at heq;refine kP H (SC (Rm M (Rm M (Rm M (Rc M (Rm M (Sp 35 M ?_ ?_))))))) <;> clear H
 ·intro iF a H
  try have p35:=dT iF
  have hil:i < l.length:=by omega
  obtain ⟨b,o,rfl,hrow⟩:=LX (f:=fun q=>q) hv hil
  replace hrow:aI G b (o+i*1)=some (vi l[i]):=by rw [Nat.mul_one];exact hrow
  refine kH H (YM iF M (YM iF M (YI mD aF iF M M (YR aF iF M (by assumption) ?_))));clear H;intro a H;refine kH H (YM iF M (YC iF M (YM iF M (Sp 42 M ?_ ?_)))) <;> clear H
  ·intro jV a H
   try have p42:=dT jV
   refine kH H (bH jV M (bH jV M (Ku M (Ku M (Ks jV M (PT iF jV M (Pt iF M (Ra M (bF K9 M ?_)))))))));clear H K9;intro a H;refine eP ?_;refine (kG H results62 (.cons (fB H M) (.cons (fB H M) .nil)) ?_).1
   exact Vj
  intro jV a H
  try have p42:=dF jV
  refine kH H (YM jV M (YM jV M (YI mD aF jV M M (YR aF jV M (by assumption) ?_))));clear H;intro a H;refine s_call aqx H (wg H M M jV) M (ayv _ _ H.ro l[i]) M ?_;clear H;rintro v47 G47 a w ⟨rfl,rfl⟩ aFi H;refine kH H (YM jV M (Sp 48 M ?_ ?_)) <;> clear H
  ·intro h48 a H
   cases h48
  intro h48 a H
  try have p48:=dF h48
  refine kH H (aU h48 M (PF jV h48 M (PF iF jV M (Pt iF M (Ra M (bF K9 M ?_))))));clear H K9;intro a H;refine eP ?_;refine (kG H results62 (.cons (fB H M) (.cons (fB H M) .nil)) ?_).1
  exact Vj
 intro iF a H
 try have p35:=dF iF
 refine kH H (bH iF M (aU iF M (aU iF M (Ku M (Ku M (Ku M (Ku M (Ku M (Ku M (Ku M (Ku M (Ku M (Ks iF M (Pf iF M (Ra M (bF K9 M ?_))))))))))))))));clear H K9;intro a H;refine eP ?_;refine (kG H results62 (.cons (fB H M) (.cons (fB H M) .nil)) ?_).1
 exact Vj
theorem arJ:aR 211:=aS func211 M
theorem asL:aR 62:=aS func62 M
theorem tZ:Ty prog 242 2 16 [.int .i64 0,.bool false] true:=⟨V,V⟩
theorem alp:qV prog 242 [(0,1),(1,1)] [.int .i64 0,.bool false]:=⟨V,V⟩
theorem arK:aR 213:=aS func213 M
theorem agr:dR prog 242 0 0:=⟨V⟩
theorem ags:dR prog 242 1 1:=⟨V⟩
theorem arL:aR 214:=aS func214 M
theorem arM:aR 215:=aS func215 M
theorem aym (G:GH) (w0:World) (hG:Hold G w0) (l:List gT) (p:gT->Bool) (v fv:ah) (hv:av G (.sl 2 (l.map gT.dat)) v) (hf:∀ x∈l,qW fv G x.dat (p x)) :
  Calls prog 211 #[v,fv] w0 (bE w0 G fun u G'=>u=vi (pz (l.findIdx? p))):=by
 obtain ⟨A,c,rfl,hc1,hc2,hg⟩:=hv.slice;have hml:maxLen=9223372036854775807:=rfl;rw [bK] at *;refine eN [(0,_),(1,_)] func211 M ntmps211 M M hG ?_;intro a H;refine kP H (SR fun _ K1=>aj K1 M (SQ fun _ K2=>SR fun _ K3=>Rm M (Rl mQ M (Rm M (Kz K3 (SB ?_))))));clear H K1 K3;intro a H;skip;refine fD (ι:=Nat × GH) (Tc:=[(0,_),(1,_),(7,_)]) (Lc:=[]) (fun gh=>[(8,vi gh.1)]) (fun gh=>[]) (fun gh=>gh.2) (fun gh=>gh.1<=l.length∧(l.take gh.1).findIdx? p=none∧(∀ b o,G b=some o->gh.2 b=some o)) (fun gh=>l.length - gh.1) ((0,G)) (by exact H.sub ⟨M,M,M,M,aC⟩) ?_ ?_
 ·exact zV
 clear H;rintro ⟨k,g⟩ a w hI H;dsimp only at hI H;obtain ⟨hk,hno,hgm⟩:=hI;dsimp only [lca,bM] at H;refine kP H (SR fun _ K4=>Rc M (Kz K4 (SQ fun _ K5=>Cd M ?_ ?_))) <;> clear H K4
 ·intro h9 a H
  try have p9:=dT h9
  have hk2:k < l.length:=by omega
  obtain ⟨b,o,cs,rfl,hcl,hrow,hrep⟩:=hg k l[k].dat (by simp [hk2]);obtain rfl:=Ny hrep;replace hrow:=fun j u hj=>aG hgm (hrow j u hj);refine kP H (Kc K5 (SQ fun _ K6=>SB (SR fun _ K7=>Rm M (aj K7 M (SR fun _ K8=>Rm M (Rm M (Rm M (Ri mQ oJ M M ?_))))))));clear H K5 K7;intro a H;refine bQ oJ (cs:=[_,_]) H wn M M (fun j v hj=>H.hp.aI (hrow j v hj)) M ?_;clear H;intro a H;refine lI H wn M M (hf _ (jS hk2) _ _ _ hgm H.ro (hrep.mono hgm)) M ?_;clear H;rintro v16 vQ a w rfl uH H;refine K8 _ _ ?_;clear K8;refine jL H M ?_ ?_
  ·intro h16
   try have p16:=dT h16
   refine kP H (SR fun _ K9=>Rm M (aj K9 M ?_));clear H K9;intro a H;refine lr H results211 M ?_
   exact xS
  exact H9
 intro h9 a H
 try have p9:=dF h9
 refine dY ?_;refine K2 _ _ ?_;clear K2;refine kP H (SR fun _ aT=>aj aT M ?_);clear H aT;intro a H;refine lr H results211 M ?_
 exact xS
theorem aeU (G:GH) (w0:World) (hG:Hold G w0) (l:List gT) (p:gT->Bool) (v fv:ah) (hv:av G (.sl 2 (l.map gT.dat)) v) (hf:∀ x∈l,qW fv G x.dat (p x)) :
  Calls prog 157 #[v,fv] w0 (bE w0 G fun u G'=>u=.bool (l.findIdx? p).isSome):=by
 refine eN [(0,_),(1,_)] func157 M ntmps157 M M hG ?_;intro a H;refine kP H (SR fun _ K1=>aj K1 M (SR fun _ K2=>Rm M (Rm M ?_)));clear H K1;intro a H;refine s_call arJ H wn M (aym _ _ H.ro l p _ _ hv hf) M ?_;clear H;rintro v7 G7 a w rfl CP H;refine kH H (Rc M (aj K2 M ?_));clear H K2;intro a H;refine lr H results157 M ?_
 exact Va
abbrev JA (s:Int × Bool):ah:=.agg #[vi s.1,.bool s.2]
theorem anA (G:GH) (w0:World) (hG:Hold G w0) (y:bW):Calls prog 161 #[.agg y.cells.toArray] w0 (bE w0 G fun u G'=>u=JA (y.before,y.had)):=by
 refine eN [(0,_)] func161 M ntmps161 M M hG ?_;intro a H;refine cZ (fun _ K1=>?_);refine dZ (cs:=[_,_,_,_]) H wn M M M ?_;clear H;intro b1 a w hb1 H;refine dW tZ H wn M ?_;clear H;intro b2 a w hb2 H;refine K1 _ _ ?_;clear K1;refine kP H (SR fun _ K2=>bC Fh aF 1 M M (bC Q9 ug 1 M M ?_));clear H;intro a H;refine jM alp [_,_] H wn M M M M ?_;clear H;intro a H;refine bJ tZ 0 (vs:=[_,_]) H wn M ?_;clear H;intro w H;refine K2 _ _ ?_;clear K2;refine eP ?_;refine (leave1 H results161 (.cons (qM tZ (cs:=[_,_]) H M M (H.hp.dG 0 M M)) .nil) ?_).1;exact yR
theorem aAB (G:GH) (w0:World) (hG:Hold G w0) (h:dD) (p d l:ah) (hh:jG G h p d l) (k:Int) (hl:h.props.length<=4294967296):Calls prog 162 #[sQ h p d l,vi k] w0 (bE w0 G fun u G'=>u=JA (lG h.props k)):=by
 obtain ⟨pA,pn,pc,rfl⟩:=hh.props.form;obtain ⟨dA,dn,dc,rfl⟩:=hh.bD.form;obtain ⟨lA,ln,lc,rfl⟩:=hh.layers.form;refine eN [(0,_),(1,_)] func162 M ntmps162 M M hG ?_;intro a H;refine cZ (fun _ K1=>?_);refine dZ (cs:=[_,_,_,_,_]) H wn M M M ?_;clear H;intro b2 a w hb2 H;refine dW tZ H wn M ?_;clear H;intro b4 a w hb4 H;refine K1 _ _ ?_;clear K1;refine kP H (SR fun _ K2=>bC zk vK 1 M M (Rm M ?_));clear H;intro a H;refine s_call arK H wn M (auq _ _ H.ro h.props k _ hh.props hl) M ?_;clear H;rintro v11 yM a w rfl CJ H;refine kH H (Rm M ?_);clear H;intro a H;(iterate 2 refine lJ H wn M M M ?_;clear H;intro a H);refine kH H (Ra M (aj K2 M (SR fun _ K3=>Rm M (Rm M ?_))));clear H K2;intro a H;refine jM alp [_,_] H wn M M M M ?_;clear H;intro a H;refine bJ tZ 0 (vs:=[_,_]) H wn M ?_;clear H;intro w H;refine K3 _ _ ?_;clear K3;refine eP ?_;refine (leave1 H results162 (.cons (qM tZ (cs:=[_,_]) H M M (H.hp.dG 0 M M)) .nil) ?_).1;exact yR
theorem anR {p:Prop} (h:p:=by
 exact Ac HT Hb hG hv (fun _ _ _ _ _ h=>h) H M):p:=h
theorem Ng {p:Prop} (h:p:=by
 clear H;intro a H;refine aD ⟨M,?_⟩;exact anR):p:=h
theorem adj {p:Prop} (h:p:=by
 clear aK;have H:=H.aM (hv 2 7 (hc 2 Z) M) M;have Hb:=H.full;have H:=Hb;clear hc;refine kH H (Ro ug 1 M ?_);exact Ng):p:=h
theorem ads {p:Prop} (h:p:=by
 clear aK;have Hb:=H.full;have H:=Hb;clear hc;refine kH H (Rf ags M ?_);exact Ng):p:=h
theorem auk (G:GH) (w0:World) (hG:Hold G w0) (y:bW) (s:Int × Bool):Calls prog 163 #[.agg y.cells.toArray,JA s] w0 (bE w0 G fun u G'=>u=.agg (bW.cells ⟨y.rev,y.key,s.1,s.2⟩).toArray):=by
 refine eN [(0,_),(1,_)] func163 M ntmps163 M M hG ?_;intro a H;refine cZ (fun _ K1=>?_);refine dZ (cs:=[_,_,_,_]) H wn M M M ?_;clear H;intro b2 a w hb2 H;refine dZ (cs:=[_,_]) H wn M M M ?_;clear H;intro b3 a w hb3 H;refine dW jY H wn M ?_;clear H;intro b4 a w hb4 H;refine K1 _ _ ?_;clear K1;refine bL (fun _ K2=>?_);refine aot (hmx) [[],[0],[],[2],[0,1],[0,1,4],ra 0 6,ra 0 7] [6,7] V V 5 Z (fun (bV:Nat) (v:ah) (G:GH)=>match bV with|0=>v=(aH b3 0)|1=>v=vi s.1|2=>v=(aH b3 1)|3=>v=.bool s.2|4=>v=(aH b2 2)|_=>True) 2 ((b2,.cells #[vi y.rev,vi y.key,vi s.1,.bool y.had] 161 (0,0))) H ?_ ?_ ?_ ?_ V
 ·clear H;refine aB ?_ ?_ ?_ ?_ (aB ?_ ?_ (bS M) (bS M) dz)
  ·intro aW a w G1 _ _ aK hc hG HT hv;have H:=HT;clear aK;have Hb:=H.full;have H:=Hb;clear hc;refine kH H (Rf agr M ?_);exact Ng
  ·intro aW a w G1 _ _ aK hc hG HT hv;have H:=HT;clear aK;have H:=H.aM (hv 0 5 (hc 0 Z) M) M;have Hb:=H.full;have H:=Hb;clear hc;refine kH H (Ro aF 1 M ?_);exact Ng
  ·intro aW a w G1 _ _ aK hc hG HT hv;have H:=HT;exact ads
  ·intro aW a w G1 _ _ aK hc hG HT hv;have H:=HT;exact adj
  ·intro aW a w G1 _ _ aK hc hG HT hv;have H:=HT;clear aK;have Hb:=H.full;have H:=Hb;clear hc;refine kH H (Rf Fh M ?_);exact Ng
  intro _ _ _ _ _ hB;exact gV
 ·clear H;intro o_ aW a w G1 lU _ hc hG HT hv;obtain rfl:_=o_:=Option.some.inj lU;clear lU;have H:=HT;have H:=H.aM (hv 4 9 (hc 4 Z) M) M;have H:=H.aM (hv 1 6 (hc 1 Z) M) M;have Hb:=H.full;have H:=Hb;clear hc;refine bJ aF 2 (vs:=[_]) H wn M ?_;clear H;intro w H;refine aD ⟨M,?_⟩;exact aqe M HT hG hv H
 ·clear H;refine aB (bS M) (bS M) ?_ ?_ (aB (bS M) ?_ (bS M) (bS M) dz)
  ·intro aW a w G1 _ _ aK hc hG HT hv;have H:=HT;dsimp only [List.set,List.append,lca,bM] at H;exact ads
  ·intro aW a w G1 _ _ aK hc hG HT hv;have H:=HT;dsimp only [List.set,List.append,lca,bM] at H;exact adj
  intro _ _ _ _ _ hB;exact gV
 clear H;intro a w G nO H hv;dsimp only [List.set,List.append,lca,bM] at H;have H:=H.aM (hv 3 8 M M) M;clear hv;refine kH H (Rf Q9 M ?_);clear H;intro a H;refine bJ ug 2 (vs:=[_]) H wn M ?_;clear H;intro w H;refine aD ⟨M,?_⟩;refine K2 _ _ ?_;clear K2;refine cZ (fun _ K3=>?_);refine bQ jY (cs:=[_,_,_,_]) H wn M M (H.hp.dG 2 M M) M ?_;clear H;intro a H;refine bJ jY 0 (vs:=[_,_,_,_]) H wn M ?_;clear H;intro w H;refine K3 _ _ ?_;clear K3;refine eP ?_;refine (leave1 H results163 (.cons (qM jY (cs:=[_,_,_,_]) H M M (H.hp.dG 0 M M)) .nil) ?_).1;exact yR
theorem aD5 (G:GH) (w0:World) (hG:Hold G w0) (ps:List aN) (io mo:Int) (p:ah) (dA lA:Option Addr) (dn dc ln lc:Nat) (hp:av G (.sl 2 (ps.map aN.dat)) p) (k:Int) (s:Int × Bool) (hl:ps.length<=4294967295) :
  Calls prog 164 #[.agg #[p,vi io,vi mo,.slice dA dn dc,.slice lA ln lc],vi k,JA s] w0 (bE w0 G fun u G'=>∃ p',u=.agg #[p',vi io,vi mo,.slice dA dn dc,.slice lA ln lc]∧av G' (.sl 2 ((vN ps k s).map aN.dat)) p'):=by
 obtain ⟨pA,pn,pc,rfl⟩:=hp.form;refine eN [(0,_),(1,_),(2,_)] func164 M ntmps164 M M hG ?_;intro a H;refine cZ (fun _ K1=>?_);refine dZ (cs:=[_,_,_,_,_]) H wn M M M ?_;clear H;intro b3 a w hb3 H;refine dZ (cs:=[_,_]) H wn M M M ?_;clear H;intro b5 a w hb5 H;refine dW gB H wn M ?_;clear H;intro b6 a w hb6 H;refine K1 _ _ ?_;clear K1;refine kP H (SQ fun _ K2=>SR fun _ K3=>bC ags ug 1 M M (Kz K3 (Cd M ?_ ?_))) <;> clear H K3
 ·intro h8 a H
  try have p8:=dT h8
  refine kP H (SC (bC zk vK 2 M M (Rm M (bC agr aF 1 M M ?_))));clear H;intro a H;refine s_call arL H wn M (aCp _ _ H.ro ps k s.1 _ hp hl) M ?_;clear H;rintro v14 EN a w vC Ei H;obtain ⟨PD,n14,c14,rfl⟩:=vC.form;refine kH H (Rf zk M ?_);clear H;intro a H;refine bJ vK 2 (vs:=[_]) H wn M ?_;clear H;intro w H;refine aD ?_;refine K2 _ _ ?_;clear K2;refine cZ (fun _ K4=>?_);refine bQ gB (cs:=[_,_,_,_,_]) H wn M M (H.hp.dG 2 M M) M ?_;clear H;intro a H;refine bJ gB 0 (vs:=[_,_,_,_,_]) H wn M ?_;clear H;intro w H;refine K4 _ _ ?_;clear K4;refine eP ?_;refine (leave1 H results164 (.cons (qM gB (cs:=[_,_,_,_,_]) H M M (H.hp.dG 0 M M)) .nil) ?_).1;exact H.rt ⟨_,M,by rw [vN,ay (by assumption)];exact vC⟩
 intro h8 a H
 try have p8:=dF h8
 refine kP H (SC (bC zk vK 2 M M (Rm M ?_)));clear H;intro a H;refine s_call arM H wn M (apf _ _ H.ro ps k _ hp hl) M ?_;clear H;rintro v19 GQ a w Ol sW H;obtain ⟨JJ,n19,c19,rfl⟩:=Ol.form;refine kH H (Rf zk M ?_);clear H;intro a H;refine bJ vK 2 (vs:=[_]) H wn M ?_;clear H;intro w H;refine aD ?_;refine K2 _ _ ?_;clear K2;refine cZ (fun _ K5=>?_);refine bQ gB (cs:=[_,_,_,_,_]) H wn M M (H.hp.dG 2 M M) M ?_;clear H;intro a H;refine bJ gB 0 (vs:=[_,_,_,_,_]) H wn M ?_;clear H;intro w H;refine K5 _ _ ?_;clear K5;refine eP ?_;refine (leave1 H results164 (.cons (qM gB (cs:=[_,_,_,_,_]) H M M (H.hp.dG 0 M M)) .nil) ?_).1;exact H.rt ⟨_,M,by rw [vN,au (by simp_all)];exact Ol⟩
theorem afJ:aR 212:=aS func212 M
def gP (q:Int × List bW):AP:=fun args g=>∃ v,args=[vi q.1,v]∧av g (.sl 4 (q.2.map bW.dat)) v
theorem agX {A:List (Int × List bW)} {k:Nat} {args:List ah} {g:GH} (h:xJ (A.map gP) k args g):∃ (hk:k < A.length) (B:Option Addr) (c:Nat),args=[vi A[k].1,.slice B A[k].2.length c]∧av g (.sl 4 (A[k].2.map bW.dat)) (.slice B A[k].2.length c):=by
 obtain ⟨p,hp,hargs⟩:=h;rw [qD] at hp;obtain ⟨q,hq,rfl⟩:=oO.1 hp;obtain ⟨hk,rfl⟩:=jZ.1 hq;obtain ⟨v,h1,h2⟩:=hargs;obtain ⟨B,n,c,rfl⟩:=h2.form;have hn:=h2.len;rw [bK] at hn;subst hn;exact ⟨hk,B,c,h1,h2⟩
theorem av.hd {G:GH} {sz:Nat} {rows:List (List Dat)} {A:Option Addr} {n c:Nat} (h:av G (.sl sz rows) (.slice A n c)) (m:Nat) (hm:m<=rows.length):av G (.sl sz (rows.take m)) (.slice A m c):=by
 have h2:=h.part 0 m (kY _) hm;obtain ⟨A',c',he,hc1,-,-⟩:=h.slice;rw [uX,Nat.sub_zero,Nat.sub_zero] at h2
 by_cases hc:c=0
 ·rw [ay hc] at h2;exact h2
 rw [au hc] at h2
 cases A with
 | none=>exact h2
 | some p=>simpa [Addr.add] using h2
theorem aaH {α:Type} {p:α->Bool}:∀ (r:List α) (i:Nat) (hi:i < r.length),i<=(r.takeWhile p).length->(p r[i]=true↔i < (r.takeWhile p).length)
 | [],_,hi,_=>absurd hi (by simp)
 | x :: r,i,hi,h=>by
  rw [List.takeWhile_cons] at h |-
  cases hx:p x
  ·rw [hx] at h
   simp only [Hl,if_false,List.length_nil,Nat.le_zero] at h
   subst h
   simp [hx]
  rw [hx] at h
  simp only [if_true,kR] at h |-
  cases i with
  | zero=>simp [hx]
  | succ i=>simpa using aaH r i (by simpa using hi) O
theorem alG {α:Type} {p:α->Bool} (r:List α):r.drop (r.takeWhile p).length=r.dropWhile p:=by
 conv=>lhs;rw [<- List.takeWhile_append_dropWhile (p:=p) (l:=r)]
 rw [List.drop_append_of_le_length (by simp [List.takeWhile_append_dropWhile])]
 simp [List.takeWhile_append_dropWhile]
theorem alH {α:Type} {p:α->Bool} (r:List α):r.take (r.takeWhile p).length=r.takeWhile p:=by
 have:=List.take_left (l₁:=r.takeWhile p) (l₂:=r.dropWhile p)
 rwa [List.takeWhile_append_dropWhile] at this
theorem acu {p:Prop} (h:p:=by
 first
  | exact H.hp.lW (L':=P6) (by repeat (first|exact kS _|apply List.Sublist.cons)) (.inr (hb2 (by simpa using qj)))
  | exact H.hp.gQ (.inl (by
    have:=iG.len;rw [show rest=[] from List.eq_nil_of_length_eq_zero O] at this
    cases f <;> (simp only [rX,List.length_nil,sJ] at this;first|(rw [bK,<- this];exact iG.now)|(rw [<- this];exact iG.now))))):p:=h
theorem anS {p:Prop} (h:p:=by
 exact h1.mono fun b o h=>Yp b o (rz b o (xZ b o (hg3 b o h)))):p:=h
theorem adD {p:Prop} (h:p:=by
 by_cases hlt:m < 1+(r.takeWhile p).length
 ·exfalso
  have h1:=(aaH (p:=p) r (m - 1) O O).2 O;have h3:=hkm O
  have h2:(y :: r)[m]=r[m - 1]:=by
   obtain ⟨q,rfl⟩:∃ q,m=q+1:=⟨m - 1,O⟩
   rfl
  have h4:=rT ((congrFun hp _).symm.trans h1);rw [h2] at h3;rw [h3] at h4
  first|exact p26 h4|exact c0 O
 omega):p:=h
theorem adF {p:Prop} (h:p:=by
 (try dsimp only);refine ⟨by rw [List.length_drop];omega,by rw [List.length_drop];omega,fun b o h=>Yp b o (rz b o (xZ b o (hg3 b o (hgm b o h)))),?_,iG.step (hb1 (by simpa using qj))⟩;have h1:=rF.part m (y :: r).length O (by simp);rw [<- List.map_drop,nZ (by simp)] at h1;rw [List.length_drop];exact anS):p:=h
theorem acT {p:Prop} (h:p:=by
 intro qj
 try have p38:=dT qj
 refine eP ?_;refine (leave0 H results212 ?_).1
 exact acu):p:=h
theorem adl {p:Prop} (h:p:=by
 refine eT 5 34 6 35 M M fun _ a w G1 hG HT H fin=>?_;refine Jz mq jY m H wn M M M O M ?_;exact jH):p:=h
theorem ado {p:Prop} (h:p:=by
 refine iO 1 30 M M fun _ a w G1 hG HT H fin=>?_;refine yG mq jY 0 H wn M M M (by simp) M ?_;exact jH):p:=h
set_option maxHeartbeats 2000000 in
theorem auu {G:GH} {bd:Nat} {l:List bW} {v:ah} (hb:aI G bd 4=some v) (hv:av G (.sl 4 (l.map bW.dat)) v) (hz:l.length<=4294967290) :
  Iter prog G (.func (.func 212) #[] #[(aH bd 0)]) ((rX l.length l).map gP):=by
 intro J Jx fv G1 L w0 Yj hGi tT hJx hJ hO hcb;refine kD (caps:=[(aH bd 0)]) afJ ?_;obtain ⟨A,c,rfl,hc1,hc2,hg⟩:=hv.slice;rw [bK] at *;replace hb:=aG hGi hb;refine jc (N:=42) (T:=[(0,_),(1,_)]) func212 M ntmps212 M M hO ?_;intro a H;refine kP H (SR fun _ K1=>Rf oh M (Rf Bd M (Rg BQ M hb (aj K1 M (SB ?_)))));clear H K1;intro a H;skip;refine fD (ι:=Nat × List bW × Option Addr × Nat × Nat × OL × GH) (Tc:=[(0,_)]) (Lc:=[]) (fun gh=>[(3,.slice gh.2.2.1 gh.2.1.length gh.2.2.2.1)]) (fun gh=>[]++gh.2.2.2.2.2.1) (fun gh=>gh.2.2.2.2.2.2) (fun gh=>gh.2.1.length<=gh.1∧gh.2.1.length<=4294967290∧(∀ b o,G1 b=some o->gh.2.2.2.2.2.2 b=some o)∧av gh.2.2.2.2.2.2 (.sl 4 (gh.2.1.map bW.dat)) (.slice gh.2.2.1 gh.2.1.length gh.2.2.2.1)∧Now ((rX l.length l).map gP) gP J (rX l.length l).length gh.2.2.2.2.1 (rX gh.1 gh.2.1) gh.2.2.2.2.2.2 gh.2.2.2.2.2.1) (fun gh=>gh.2.1.length) ((l.length,l,A,c,0,L,G1)) (by exact H.sub ⟨M,M,aC⟩) ?_ ?_
 ·exact ⟨dS _,hz,fun _ _ h=>h,hv.mono hGi,⟨hJ,fun i a h=>by rw [gZ,qD];rw [h];rfl,by simp⟩⟩
 clear H;rintro ⟨f,rest,B,d,j1,Lt,g⟩ a w hI H;dsimp only at hI H;obtain ⟨hf,hzr,hgm,rF,iG⟩:=hI;dsimp only [lca,bM] at H;refine kP H (SQ fun _ K2=>SR fun _ K3=>Rm M (Rl mq M (Rc M (Kz K3 (Cd M ?_ ?_))))) <;> clear H K3
 ·intro h10 a H
  try have ni:=dT h10
  obtain ⟨y,r,rfl⟩:∃ y r,rest=y :: r:=by cases rest with|nil=>simp at ni|cons y r=>exact ⟨y,r,M⟩
  obtain ⟨f,rfl⟩:∃ f',f=f'+1:=⟨f - 1,by rw [kR] at hf;omega⟩;rw [rX] at iG;obtain ⟨b,o,rfl,hr0⟩:=F4 rF (k:=0) (by simp);obtain ⟨p,hp⟩:∃ p:bW->Bool,p=fun z=>decide (z.key=y.key):=⟨_,M⟩;rw [<- hp] at iG;refine kP H (Kc K2 (SB (SR fun _ K4=>aj K4 M (SQ fun _ K5=>SB ?_))));clear H K2 K4;intro a H;skip;refine fD (ι:=Nat × GH) (Tc:=[(0,_),(3,_)]) (Lc:=[]) (fun gh=>[(4,vi gh.1)]) (fun gh=>[]++Lt) (fun gh=>gh.2) (fun gh=>1<=gh.1∧gh.1<=1+(r.takeWhile p).length∧(∀ b o,g b=some o->gh.2 b=some o)) (fun gh=>(y :: r).length - gh.1) ((1,g)) (by exact H.sub ⟨M,M,M,aC⟩) ?_ ?_
  ·exact ⟨dS _,O,fun _ _ h=>h⟩
  clear H;rintro ⟨m,g3⟩ a w hI H;dsimp only at hI H;obtain ⟨hm1,hm2,hg3⟩:=hI;dsimp only [lca,bM] at H;refine bL (fun _ K6=>?_);refine bL (fun _ K7=>?_)
  obtain ⟨km,hkm⟩:∃ km:Int,∀ (h:m < (y :: r).length),(y :: r)[m].key=km:=by
   by_cases h:m < (y :: r).length
   ·exact ⟨((y :: r)[m]'h).key,fun _=>rfl⟩
   exact ⟨0,fun h2=>absurd h2 h⟩
  have hkc:m < (y :: r).length->aI g b (o+m*4+1)=some (vi km):=fun h=>by
   obtain ⟨b',o',he,hrm⟩:=F4 rF (k:=m) h
   injection he with he
   injection he with e1 e2
   subst e1 e2;rw [<- hkm h];exact hrm 1 _ M
  have hlen:(y :: r).length=r.length+1:=rfl
  have hdc:(y :: r).length<=d:=by
   obtain ⟨_,_,he,h1,-,-⟩:=rF.slice
   injection he with _ _ e3
   rw [bK] at h1
   omega
  have htl:(r.takeWhile p).length<=r.length:=(List.takeWhile_sublist (l:=r) p).length_le
  by_cases c0:(m:Int) < ((y :: r).length:Int)
  ·skip;refine dI hmx [[],[],[1],[0,1,2],ra 0 4,ra 0 5,ra 0 5,ra 0 7,ra 0 8,ra 0 9,ra 0 5,[0,1,2,3,4,10],[0,1,2,3,4,10,11],[0,1,2,3,4,10,11,12],ra 0 14,ra 0 15] [] V [_,_,_,_,_,_,_,(aH b (o+m*4)),_,_,_,(aH b (o+0*4)),_,_,_,_] H (aB (Z0 M (Rm M)) (Z0 M (Rm M)) (Z1 1 12 M (Rl mq M)) (Z2 0 11 2 13 M (Rc M)) (aB (Z1 3 14 M (Rm M)) (Z1 4 15 M (YM (aJ c0) M)) (Z1 4 15 M (YM (aJ c0) M)) ?_ (aB (Z2 7 18 4 15 M (YF zi (aJ c0) M)) (X2 8 19 4 15 M fun hG=>YR aF (aJ c0) M (aG hG (aG hg3 (hkc O)))) (Z1 4 15 M (YM (aJ c0) M)) ?_ (aB (Z2 11 22 4 15 M (YF zi (aJ c0) M)) (X2 12 23 4 15 M fun hG=>YR aF (aJ c0) M (aG hG (aG hg3 (hr0 1 _ M)))) (Z3 9 20 13 24 4 15 M (YC (aJ c0) M)) (Z2 4 15 14 25 M (Pt (aJ c0) M)) dz)))) ?_
   ·refine zS 5 16 6 17 4 15 M M fun _ a w G1 hG HT H fin=>?_;refine yG mq jY m H (wg H M M (aJ c0)) M M M O M ?_;exact jH
   ·refine eT 10 21 4 15 M M fun _ a w G1 hG HT H fin=>?_;refine yG mq jY 0 H (wg H M M (aJ c0)) M M M (by simp) M ?_;exact jH
   clear H;intro a w G xZ H hv;have H:=H.aM (hv 15 26 M M) M;clear hv;refine aD ⟨M,?_⟩;refine K7 _ _ ?_;clear K7;refine jL H M ?_ ?_
   ·intro ko
    try have p26:=dT ko
    have hmr:m - 1 < (r.takeWhile p).length:=by
     refine (aaH (p:=p) r (m - 1) O O).1 ?_;have h1:=hkm O
     have h2:(y :: r)[m]=r[m - 1]:=by
      obtain ⟨q,rfl⟩:∃ q,m=q+1:=⟨m - 1,O⟩
      rfl
     rw [hp];rw [h2] at h1;exact mY (by rw [h1];exact p26)
    refine kP H (Kc K6 (SB (SC (Rm M (Rd M (Ra M ?_))))));clear H K6;intro a H;refine aD ?_;refine dQ ((m+1,_)) (by exact H.sub ⟨M,M,M,aC⟩) ?_
    (try dsimp only);exact ⟨O,O,fun b o h=>xZ b o (hg3 b o h)⟩
   intro ko
   try have p26:=dF ko
   refine dY ?_;refine K5 _ _ ?_;clear K5;refine bL (fun _ K8=>?_);refine bL (fun _ K9=>?_)
   have hmr:m=1+(r.takeWhile p).length:=by
    exact adD
   have htk:(y :: r).take m=y :: r.takeWhile p:=by rw [hmr,Nat.add_comm,List.take_succ_cons,alH]
   have hdr:(y :: r).drop m=r.dropWhile p:=by rw [hmr,Nat.add_comm,xQ,alG]
   rw [<- htk,<- hdr] at iG;refine dI hmx [[],[],[1],[1,2],[1,2,3],[],[],[5,6],ra 0 8,ra 0 9] [8,9] V [_,_,(aH b (o+0*4)),_,_,_,_,.slice (some ⟨b,o,none⟩) m d] H (aB (Z0 M (Rm M)) (Z0 M (Rm M)) ?_ (Z1 2 31 M (Rf zi M)) (aB (X1 3 32 M fun hG=>Rg aF M (aG hG (aG xZ (aG hg3 (hr0 1 _ M))))) (Z0 M (Rm M)) (Z0 M (Rm M)) ?_ (bN (bS M) (bN (bS M) dz)))) ?_
   ·exact ado
   ·exact adl
   clear H;intro a w G rz H hv;have H:=H.aM (hv 0 29 M M) M;have H:=H.aM (hv 4 33 M M) M;have H:=H.aM (hv 7 36 M M) M;clear hv;refine BL (Li:=[]) (L:=Lt) H wn M M (hcb j1 _ _ _ _ ⟨_,iG.head,_,M,by rw [List.map_take];exact ((rF.hd m (by simp;omega)).mono fun b o h=>rz b o (xZ b o (hg3 b o h)))⟩ (fun b o h=>rz b o (xZ b o (hg3 b o (hgm b o h)))) (tT _ _ _ _ (fun b o h=>rz b o (xZ b o (hg3 b o h))) iG.now) (Hp.owns (Li:=[]) H.hp)) M ?_;clear H;rintro v37 Uz P6 a w ⟨b37,rfl,hb1,hb2⟩ Yp H;refine kH H (Rn M ?_);clear H;intro a H;refine aD ⟨M,?_⟩;refine K9 _ _ ?_;clear K9;refine jL H M ?_ ?_
   ·exact acT
   intro qj
   try have p38:=dF qj
   refine kP H (Kc K8 (SC (Rm M (Rm M ?_))));clear H K8;intro a H;refine Di mq jY m H wn M M M O M ?_;clear H;intro a H;refine kH H (Ra M ?_);clear H;intro a H;refine aD ?_;refine ZF ((f,(y :: r).drop m,_,d - m,j1+1,P6,Uz)) (by exact (show St _ _ _ _ _ _ _ ((3,.slice _ ((y :: r).drop m).length (d - m)) :: _) _ _ from by rw [List.length_drop];exact H).sub ⟨M,M,aC⟩) ?_ ?_
   ·exact adF
   show ((y :: r).drop m).length < (y :: r).length;rw [List.length_drop];omega
  skip;refine dI hmx [[],[],[1],[0,1,2],ra 0 4,ra 0 5,ra 0 5,ra 0 7,ra 0 8,ra 0 9,ra 0 5,[0,1,2,3,4,10],[0,1,2,3,4,10,11],[0,1,2,3,4,10,11,12],ra 0 14,ra 0 15] [] V [_,_,_,_,_,undef,undef,undef,undef,undef,undef,undef,undef,undef,undef,_] H (aB (Z0 M (Rm M)) (Z0 M (Rm M)) (Z1 1 12 M (Rl mq M)) (Z2 0 11 2 13 M (Rc M)) (aB (Z1 3 14 M (Rm M)) (aZ 4 (aY c0) M M) (aZ 4 (aY c0) M M) (aZ 4 (aY c0) M M) (aB (aZ 4 (aY c0) M M) (aZ 4 (aY c0) M M) (aZ 4 (aY c0) M M) (aZ 4 (aY c0) M M) (aB (aZ 4 (aY c0) M M) (aZ 4 (aY c0) M M) (aZ 4 (aY c0) M M) (Z2 4 15 14 25 M (Pf (aY c0) M)) dz)))) ?_
  clear H;intro a w G xZ H hv;have H:=H.aM (hv 15 26 M M) M;clear hv;refine aD ⟨M,?_⟩;refine K7 _ _ ?_;clear K7;refine sM H M M ?_;refine dY ?_;refine K5 _ _ ?_;clear K5;refine bL (fun _ aT=>?_);refine bL (fun _ bR=>?_)
  have hmr:m=1+(r.takeWhile p).length:=by
   exact adD
  have htk:(y :: r).take m=y :: r.takeWhile p:=by rw [hmr,Nat.add_comm,List.take_succ_cons,alH]
  have hdr:(y :: r).drop m=r.dropWhile p:=by rw [hmr,Nat.add_comm,xQ,alG]
  rw [<- htk,<- hdr] at iG;refine dI hmx [[],[],[1],[1,2],[1,2,3],[],[],[5,6],ra 0 8,ra 0 9] [8,9] V [_,_,(aH b (o+0*4)),_,_,_,_,.slice (some ⟨b,o,none⟩) m d] H (aB (Z0 M (Rm M)) (Z0 M (Rm M)) ?_ (Z1 2 31 M (Rf zi M)) (aB (X1 3 32 M fun hG=>Rg aF M (aG hG (aG xZ (aG hg3 (hr0 1 _ M))))) (Z0 M (Rm M)) (Z0 M (Rm M)) ?_ (bN (bS M) (bN (bS M) dz)))) ?_
  ·exact ado
  ·exact adl
  clear H;intro a w G rz H hv;have H:=H.aM (hv 0 29 M M) M;have H:=H.aM (hv 4 33 M M) M;have H:=H.aM (hv 7 36 M M) M;clear hv;refine BL (Li:=[]) (L:=Lt) H wn M M (hcb j1 _ _ _ _ ⟨_,iG.head,_,M,by rw [List.map_take];exact ((rF.hd m (by simp;omega)).mono fun b o h=>rz b o (xZ b o (hg3 b o h)))⟩ (fun b o h=>rz b o (xZ b o (hg3 b o (hgm b o h)))) (tT _ _ _ _ (fun b o h=>rz b o (xZ b o (hg3 b o h))) iG.now) (Hp.owns (Li:=[]) H.hp)) M ?_;clear H;rintro v37 Uz P6 a w ⟨b37,rfl,hb1,hb2⟩ Yp H;refine kH H (Rn M ?_);clear H;intro a H;refine aD ⟨M,?_⟩;refine bR _ _ ?_;clear bR;refine jL H M ?_ ?_
  ·exact acT
  intro qj
  try have p38:=dF qj
  refine kP H (Kc aT (SC (Rm M (Rm M ?_))));clear H aT;intro a H;refine Di mq jY m H wn M M M O M ?_;clear H;intro a H;refine kH H (Ra M ?_);clear H;intro a H;refine aD ?_;refine ZF ((f,(y :: r).drop m,_,d - m,j1+1,P6,Uz)) (by exact (show St _ _ _ _ _ _ _ ((3,.slice _ ((y :: r).drop m).length (d - m)) :: _) _ _ from by rw [List.length_drop];exact H).sub ⟨M,M,aC⟩) ?_ ?_
  ·exact adF
  show ((y :: r).drop m).length < (y :: r).length;rw [List.length_drop];omega
 intro h10 a H
 try have ni:=dF h10
 refine dY ?_;refine (leave0 H results212 ?_).2
 exact acu
theorem azq (G:GH) (w0:World) (hG:Hold G w0) (h:dD) (p d l:ah) (hh:jG G h p d l) (hz:h.marks.layers.length<=4294967290) :
  Calls prog 160 #[sQ h p d l] w0 (bE w0 G fun u G'=>∃ bd,u=.func (.func 212) #[] #[(aH bd 0)]∧Iter prog G' u ((rX h.marks.layers.length h.marks.layers).map gP)):=by
 obtain ⟨pA,pn,pc,rfl⟩:=hh.props.form;obtain ⟨dA,dn,dc,rfl⟩:=hh.bD.form;obtain ⟨lA,ln,lc,rfl⟩:=hh.layers.form;refine eN [(0,_)] func160 M ntmps160 M M hG ?_;intro a H;refine cZ (fun _ K1=>?_);refine dZ (cs:=[_,_,_,_,_]) H wn M M M ?_;clear H;intro b1 a w hb1 H;refine kH H (aj K1 M (SR fun _ K2=>?_));clear H K1;intro a H;refine vG H wn M M ?_;clear H;intro a H;refine kH H (aj K2 M ?_);clear H K2;intro a H;refine eP ?_;obtain ⟨G2,hm2,hb1,H⟩:=H.fU;refine lv H results160 M ?_;exact H.rt ⟨b1,M,auu (v:=.slice lA ln lc) (by unfold aI;rw [hb1];rfl) (hh.layers.mono hm2) hz⟩
theorem wu {G:GH} {b:Nat} {cs:List ah} {e:TypeId} {q:Nat × Nat} (h:G b=some (.cells cs.toArray e q)) (k:Nat) (ds:List ah) (hd:ds=(cs.drop k).take ds.length) (j:Nat) (v:ah) (hj:ds[j]?=some v):aI G b (k+j)=some v:=by
 unfold aI
 rw [h]
 show cs.toArray[k+j]?=some v
 rw [hd,uS] at hj
 split at hj
 ·simpa using hj
 cases hj
theorem alN:Ty prog 232 1 8 [.nilFunc] false:=⟨V,V⟩
theorem afB:aR 157:=aS func157 M
theorem MF:prog.underlying 240=some (.slice 242):=by kernel_rfl
theorem Mx:qV prog 29 [(0,1),(1,4)] [.slice none 0 0,.int .i64 0,.int .i64 0,.slice none 0 0,.slice none 0 0]:=⟨V,V⟩
theorem aay:qV prog 27 [(0,1),(1,1),(2,1),(3,1)] [.int .i64 0,.int .i64 0,.slice none 0 0,.slice none 0 0]:=⟨V,V⟩
theorem aqY:aR 160:=aS func160 M
theorem aqZ:aR 161:=aS func161 M
theorem ara:aR 162:=aS func162 M
theorem arb:aR 163:=aS func163 M
theorem ard:aR 164:=aS func164 M
theorem aqV:aR 155:=aS func155 M
theorem aqW:aR 156:=aS func156 M
theorem aqX:aR 158:=aS func158 M
def EZ (vv:ah) (G:GH) (acc rej:Int->Bool):Prop:=∀ (G1:GH) (w1:World),(∀ b o,G b=some o->G1 b=some o)->Hold G1 w1->∀ r:Int,uh prog vv [vi r] w1 (bE w1 G1 fun u G'=>u=.tuple #[.bool (acc r),.bool (rej r)])
def EK (fv:ah) (G:GH) (f:Int->Bool):Prop:=∀ (G1:GH) (w1:World),(∀ b o,G b=some o->G1 b=some o)->Hold G1 w1->∀ r:Int,uh prog fv [vi r] w1 (bE w1 G1 fun u G'=>u=.bool (f r))
theorem EZ.mono {vv:ah} {G G':GH} {acc rej:Int->Bool} (hm:∀ b o,G b=some o->G' b=some o) (h:EZ vv G acc rej):EZ vv G' acc rej:=fun G1 w1 h1=>h G1 w1 fun b o hb=>h1 b o (hm b o hb)
theorem EK.mono {vv:ah} {G G':GH} {f:Int->Bool} (hm:∀ b o,G b=some o->G' b=some o) (h:EK vv G f):EK vv G' f:=fun G1 w1 h1=>h G1 w1 fun b o hb=>h1 b o (hm b o hb)
abbrev Qc (b:Nat):ah:=.func (.func 155) #[] #[(aH b 0)]
abbrev Tp (b:Nat):ah:=.func (.func 156) #[] #[(aH b 0)]
theorem ani {G:GH} {b:Nat} {vv:ah} {acc rej:Int->Bool} (hb:aI G b 0=some vv) (hv:EZ vv G acc rej):EK (Qc b) G acc:=by
 intro G1 w0 hm hG r;refine kD (caps:=[(aH b 0)]) aqV ?_;replace hb:=aG hm hb;refine eN [(0,_),(1,_)] func155 M ntmps155 M M hG ?_;intro a H;refine kP H (SR fun _ K1=>aj K1 M (SR fun _ K2=>Rg alN M hb (Rm M ?_)));clear H K1;intro a H;refine lI H wn M M (hv _ _ hm H.ro r) M ?_;clear H;rintro v9 G9 a w rfl yj H;refine kH H (Rm M ?_);clear H;intro a H;(iterate 2 refine lJ H wn M M M ?_;clear H;intro a H);exact kH H (Ra M (aj K2 M (SR fun _ K3=>Rm M (aj K3 M (LR results155 M fun H=>H.rt M)))))
theorem aA0 {G:GH} {b:Nat} {vv:ah} {acc rej:Int->Bool} (hb:aI G b 0=some vv) (hv:EZ vv G acc rej):EK (Tp b) G rej:=by
 intro G1 w0 hm hG r;refine kD (caps:=[(aH b 0)]) aqW ?_;replace hb:=aG hm hb;refine eN [(0,_),(1,_)] func156 M ntmps156 M M hG ?_;intro a H;refine kP H (SR fun _ K1=>aj K1 M (SR fun _ K2=>Rg alN M hb (Rm M ?_)));clear H K1;intro a H;refine lI H wn M M (hv _ _ hm H.ro r) M ?_;clear H;rintro v9 G9 a w rfl yj H;refine kH H (Rm M ?_);clear H;intro a H;(iterate 2 refine lJ H wn M M M ?_;clear H;intro a H);exact kH H (Ra M (aj K2 M (SR fun _ K3=>Rm M (aj K3 M (LR results156 M fun H=>H.rt M)))))
theorem afi {G:GH} {b:Nat} {fv:ah} {acc:Int->Bool} (hb:aI G b 0=some fv) (hv:EK fv G acc) (x:gT):qW (.func (.func 158) #[] #[(aH b 0)]) G x.dat (acc x.rev):=by
 intro G1 w0 cs hm hG hr;obtain rfl:=Ny hr;refine kD (caps:=[(aH b 0)]) aqX ?_;replace hb:=aG hm hb;refine eN [(0,_),(1,_)] func158 M ntmps158 M M hG ?_;intro a H;refine cZ (fun _ K1=>?_);refine dZ (cs:=[_,_]) H wn M M M ?_;clear H;intro b2 a w hb2 H;refine kH H (aj K1 M (SR fun _ K2=>Rg Dq M hb (bC Fg aF 0 M M ?_)));clear H K1;intro a H;refine lI H wn M M (hv _ _ hm H.ro x.rev) M ?_;clear H;rintro v7 G7 a w rfl CP H;exact kH H (aj K2 M (LR results158 M fun H=>H.rt M))
theorem aAw (G:GH) (w0:World) (hG:Hold G w0) (l:List aN) (v:ah) (hv:av G (.sl 2 (l.map aN.dat)) v) (hz:l.length<=4294967296) :
  Calls prog 159 #[v] w0 (bE w0 G fun u G'=>av G' (.sl 2 (l.map aN.dat)) u):=by
 obtain ⟨A,n,c,rfl⟩:=hv.form;refine eN [(0,_)] func159 M ntmps159 M M hG ?_;intro a H;refine kP H (SR fun _ K1=>aj K1 M (SR fun _ K2=>Rm M ?_));clear H K1;intro a H;refine s_call QZ H wn M (Wp _ _ H.ro _ _ _ _ hv (by simpa using hz)) M ?_;clear H;rintro v4 G4 a w Oo rD H;exact kH H (aj K2 M (LR results159 M fun H=>H.rt Oo))
abbrev O7 (s:Int × Bool):List Dat:=[li s.1,.lf (.bool s.2)]
theorem alx (G:GH) (s:Int × Bool):aX G (O7 s) [vi s.1,.bool s.2]:=by simp [aX,av,Value.oneCell']
theorem alA {G:GH} {l:List (Int × Bool)} {A:Option Addr} {n c k:Nat} (hv:av G (.sl 2 (l.map O7)) (.slice A n c)) (hk:k < l.length):∃ b o,A=some ⟨b,o,none⟩∧∀ j u,[vi l[k].1,.bool l[k].2][j]?=some u->aI G b (o+k*2+j)=some u:=by
 obtain ⟨b,o,cs,h1,h2,h3,h4⟩:=hv.at_ k (O7 l[k]) (by simp [hk])
 simp only [aX,av] at h4
 obtain ⟨_,_,rfl,⟨rfl,-⟩,_,_,rfl,⟨rfl,-⟩,rfl⟩:=h4;exact Hu
theorem ayR (G:GH) (y:bW):aX G y.dat y.cells:=by simp [bW.dat,bW.cells,aX,av,Value.oneCell']
theorem afh (G:GH) (y:gT):aX G y.dat y.cells:=by simp [gT.dat,gT.cells,aX,av,Value.oneCell']
theorem aDd (props:List aN) (key:Int) (l:List bW):(qo props key l).length=l.length+1:=by simp [qo]
theorem agx {l:List gT} {p:gT->Bool}:(l.findIdx? p).isSome=true↔∃ x∈l,p x=true:=by rw [List.findIdx?_isSome,List.any_eq_true]
theorem aut {L:List (Int × List bW)} {l:List bW} (h:L.flatMap Prod.snd=l) (hn:∀ q∈L,q.2≠[]) (k:Nat) (hk:k<=L.length):k<=((L.take k).flatMap Prod.snd).length∧((L.take k).flatMap Prod.snd).length<=l.length:=by
 constructor
 ·induction k with
  | zero=>exact kY _
  | succ k ih =>
   have:=ih O;rw [jK O,List.flatMap_append,gF];have h2:=List.length_pos_iff.2 (hn L[k] (jS O))
   simp only [List.flatMap_cons,List.flatMap_nil,fG]
   omega
 have e:l=(L.take k).flatMap Prod.snd++(L.drop k).flatMap Prod.snd:=by rw [<- List.flatMap_append,List.take_append_drop,h]
 rw [e,gF];omega
def vO (acc rej:Int->Bool) (h:dD) (u:ah) (G:GH):Prop:=if lS acc rej h then abw false Dx u G else abw true (gL acc rej h) u G
theorem anT {p:Prop} (h:p:=by
 first
  | exact H.rt (by rw [vO,ay (by first|exact .inl ⟨by assumption,by assumption⟩|exact .inr (agx.1 (by assumption)))];exact ⟨_,_,_,M,aEi _⟩)
  | (obtain ⟨Gr2,ahU,IZ,H⟩:=St.qh (Li:=[_,_]) H hrw (rows:=ly.map bW.dat) (by simp) fu
     exact H.rt (by rw [vO,au IL,hdh];exact ⟨_,_,_,M,⟨hpv.mono ahU,(hdr.mono uH).mono ahU,IZ⟩⟩))):p:=h
theorem acv {p:Prop} (h:p:=by
 exact ⟨fun hg=>hg.elim (fun g=>by simp_all) (fun g=>by have g4:=agx.2 g;simp_all),by first|assumption|exact fun b o h=>Od b o (awD b o h)⟩):p:=h
theorem anU {p:Prop} (h:p:=by
 exact Ac HT Hb hG hv (YG aP) H M):p:=h
theorem Kh {p:Prop} (h:p:=by
 exact ⟨O,bY.nil,dx.nil,fun _ _ h=>h⟩):p:=h
theorem anV {p:Prop} (h:p:=by
 exact Ac HT Hb hG hv (aio aP) H M):p:=h
theorem Qu {p:Prop} (h:p:=by
 refine (kG H results96 (.cons (qM gB (cs:=[_,_,_,_,_]) H M M (H.hp.dG 0 M M)) (.cons (fB H M) .nil)) ?_).1
 exact anT):p:=h
theorem H7 {p:Prop} (h:p:=by
 clear H;intro a H;refine aD ⟨M,?_⟩;exact anV):p:=h
theorem Kk {p:Prop} (h:p:=by
 intro _ _ _ _ _ _ _ hB;exact gV):p:=h
theorem H8 {p:Prop} (h:p:=by
 clear H;intro a H;refine aD ⟨M,?_⟩;exact anU):p:=h
theorem HY {p:Prop} (h:p:=by
 intro _ _ _ _ _ _ _ hB;exact gV):p:=h
theorem adh {p:Prop} (h:p:=by
 intro aP dU aW a w G1 fE _ _ aK hc hG HT hv;have H:=HT;clear aK;have Hb:=H.full;have H:=Hb;clear hc;refine kH H (Rm M ?_);exact H7):p:=h
set_option maxHeartbeats 8000000 in
theorem ajx (G:GH) (w0:World) (hG:Hold G w0) (acc rej:Int->Bool) (vv:ah) (hvv:EZ vv G acc rej) (hcv:vv.cells=#[vv]) (h:dD) (p d l:ah) (hh:jG G h p d l) (hz:nH h<=1073741824) :
    Calls prog 96 #[sQ h p d l,vv] w0 (bE w0 G (vO acc rej h)):=by
  have hml:maxLen=9223372036854775807:=rfl;have hzh:=GJ h;have hz1:=sG (h.props.map aN.dat);have hz2:=sG (h.marks.bD.map gT.dat);have hz3:=sG (h.marks.layers.map bW.dat)
  simp only [bK] at hz1 hz2 hz3
  obtain ⟨pA,pn,pc,rfl⟩:=hh.props.form;obtain ⟨dA,dn,dc,rfl⟩:=hh.bD.form;obtain ⟨lA,ln,lc,rfl⟩:=hh.layers.form;have hdn:=hh.bD.len;rw [bK] at hdn;subst hdn;refine eN [(0,_),(1,_)] func96 M ntmps96 M M hG ?_;intro a H;refine cZ (fun _ K1=>?_);refine dZ (cs:=[_,_,_,_,_]) H wn M M M ?_;clear H;intro b2 a w hb2 H;refine dZ (cs:=[vv]) H wn M hcv M ?_;clear H;intro b3 a w hb3 H;refine dW gB H wn M ?_;clear H;intro b4 a w hb4 H;refine kH H (aj K1 M (SR fun _ K2=>?_));clear H K1;intro a H;refine vG H wn M M ?_;clear H;intro a H;refine dW Dq H wn M ?_;clear H;intro b6 a w hb6 H;refine bJ Dq 0 (vs:=[_]) H wn M ?_;clear H;intro w H;refine K2 _ _ ?_;clear K2;refine cZ (fun _ K3=>?_);refine vG H wn M M ?_;clear H;intro a H;refine dW Dq H wn M ?_;clear H;intro b7 a w CB H;refine bJ Dq 0 (vs:=[_]) H wn M ?_;clear H;intro w H;refine K3 _ _ ?_;clear K3;refine kP H (SR fun _ K4=>Rf oh M ?_);clear H;intro a H;refine bQ EG (cs:=[_,_,_,_]) H wn M M (H.hp.dG 4 M M) M ?_;clear H;intro a H;refine dW EG H wn M ?_;clear H;intro b8 a w RN H;refine bJ EG 0 (vs:=[_,_,_,_]) H wn M ?_;clear H;intro w H;have H:=H.eD (Pl:=[_,_,_,_,_,_]) (dK:=[_,_,_,_,_,_]) [5,4,2,1,0,3] Z M;obtain ⟨Ga,hma,hb2',H⟩:=H.fU;obtain ⟨Gb,hmb,zu,H⟩:=H.fU;obtain ⟨Gc,hmc,X6,H⟩:=H.fU;obtain ⟨Gd,hmd,avz,H⟩:=H.fU;obtain ⟨Ge,hme,avA,H⟩:=H.fU;have yh:∀ b o,G b=some o->Ge b=some o:=fun b o h=>hme b o (hmd b o (hmc b o (hmb b o (hma b o h))));have q2:∀ j v,[.slice pA pn pc,vi h.marks.ins,vi h.marks.move,.slice dA h.marks.bD.length dc,.slice lA ln lc][j]?=some v->aI Ge b2 (0+j)=some v:=fun j v hj=>aG (fun b o h=>hme b o (hmd b o (hmc b o (hmb b o h)))) (wu hb2' 0 _ M j v hj);have q8:∀ j v,[vi h.marks.ins,vi h.marks.move,.slice dA h.marks.bD.length dc,.slice lA ln lc][j]?=some v->aI Ge b8 (0+j)=some v:=fun j v hj=>wu avA 0 _ M j v hj;have hvb:aI Gb b3 0=some vv:=wu zu 0 [vv] M 0 _ M;have yg:EK (Qc b3) Ge acc:=(ani hvb (hvv.mono fun b o h=>hmb b o (hma b o h))).mono fun b o h=>hme b o (hmd b o (hmc b o h));have zq:EK (Tp b3) Ge rej:=(aA0 hvb (hvv.mono fun b o h=>hmb b o (hma b o h))).mono fun b o h=>hme b o (hmd b o (hmc b o h));have q6:aI Ge b6 0=some (Qc b3):=aG (fun b o h=>hme b o (hmd b o h)) (wu X6 0 [Qc b3] M 0 _ M);have q7:aI Ge b7 0=some (Tp b3):=aG hme (wu avz 0 [Tp b3] M 0 _ M);replace hh:=hh.mono yh;refine K4 _ _ ?_;clear K4;refine uo (ι:=GH) (Tc:=[(2,_),(4,_),(6,_),(7,_),(8,_)]) (Lc:=[(_,_)]) (fun gh=>[]) (fun gh=>[]) (fun gh=>gh) (fun gh=>¬ lS acc rej h∧(∀ b o,Ge b=some o->gh b=some o)) (by exact H.sub ⟨M,M,M,M,M,aC⟩) ?_ ?_
  · skip;refine kP H (SR fun _ K5=>Rf tL M (Rg aF M (q8 0 _ M) (Rc M (Rm M (Sp 29 M ?_ ?_))))) <;> clear H
    · intro iE a H
      try have p29:=dT iE
      refine kH H (YR Dq iE M q7 (YF tL iE M (YR aF iE M (q8 0 _ M) ?_)));clear H;intro a H;refine lI H (wg H M M iE) M M (zq _ _ (fun _ _ h=>h) H.ro h.marks.ins) M ?_;clear H;rintro v33 G33 a w rfl awD H;refine kH H (Pt iE M (Rm M (Sp 35 M ?_ ?_))) <;> clear H
      · intro iF a H
        try have p35:=dT iF
        refine kH H (aU iF M (aU iF M (Pt iF M (Kz K5 (Ct M M (SR fun _ K6=>?_))))));clear H K5;intro a H;refine jM Mx [_,_,_,_,_] H wn M M M M ?_;clear H;intro a H;refine bJ gB 0 (vs:=[_,_,_,_,_]) H wn M ?_;clear H;intro w H;refine kH H (aj K6 M ?_);clear H K6;intro a H;refine eP ?_;exact Qu
      intro iF a H
      try have p35:=dF iF
      refine kH H (YF qH iF M (YR qO iF M (aG (by first|assumption|exact fun _ _ h=>h) (q8 2 _ M)) ?_));clear H;intro a H;refine vG H (wg H M M iF) M M ?_;clear H;intro a H;refine s_call afB H (wg H M M iF) M (aeU _ _ H.ro h.marks.bD (fun x=>acc x.rev) _ _ (hh.bD.mono (by first|assumption|exact fun _ _ h=>h)) (fun x _=>afi (aG (by first|assumption|exact fun _ _ h=>h) q6) (yg.mono (by first|assumption|exact fun _ _ h=>h)) x)) M ?_;clear H;rintro v39 UC a w rfl Od H;refine kH H (Pf iF M (Kz K5 (Cd M ?_ ?_))) <;> clear H K5
      · intro lT a H
        try have p40:=dT lT
        refine cZ (fun _ K7=>?_);refine jM Mx [_,_,_,_,_] H wn M M M M ?_;clear H;intro a H;refine bJ gB 0 (vs:=[_,_,_,_,_]) H wn M ?_;clear H;intro w H;refine kH H (aj K7 M ?_);clear H K7;intro a H;refine eP ?_;exact Qu
      intro lT a H
      try have p40:=dF lT
      refine iD ?_;refine ⟨_,by exact H.sub ⟨M,M,M,M,M,aC⟩,?_⟩;exact acv
    intro iE a H
    try have p29:=dF iE
    refine kH H (aU iE M (aU iE M (Pf iE M (Rm M ?_))));clear H;intro a H;refine Ms qH H (wg H M M M) M M ?_;clear H;intro a H;refine sF qO H (wg H M M M) M (H.hp.aI (aG (by first|assumption|exact fun _ _ h=>h) (q8 2 _ M))) M ?_;clear H;intro a H;refine vG H (wg H M M M) M M ?_;clear H;intro a H;refine s_call afB H (wg H M M M) M (aeU _ _ H.ro h.marks.bD (fun x=>acc x.rev) _ _ (hh.bD.mono (by first|assumption|exact fun _ _ h=>h)) (fun x _=>afi (aG (by first|assumption|exact fun _ _ h=>h) q6) (yg.mono (by first|assumption|exact fun _ _ h=>h)) x)) M ?_;clear H;rintro v39 UC a w rfl Od H;refine kH H (Pf M M (Kz K5 (Cd M ?_ ?_))) <;> clear H K5
    · intro lT a H
      try have p40:=dT lT
      refine cZ (fun _ K8=>?_);refine jM Mx [_,_,_,_,_] H wn M M M M ?_;clear H;intro a H;refine bJ gB 0 (vs:=[_,_,_,_,_]) H wn M ?_;clear H;intro w H;refine kH H (aj K8 M ?_);clear H K8;intro a H;refine eP ?_;exact Qu
    intro lT a H
    try have p40:=dF lT
    refine iD ?_;refine ⟨_,by exact H.sub ⟨M,M,M,M,M,aC⟩,?_⟩;exact acv
  clear H;intro gj a w hI H;obtain ⟨IL,hgj⟩:=hI;replace q2:=fun j v hj=>aG hgj (q2 j v hj);replace q8:=fun j v hj=>aG hgj (q8 j v hj);replace q6:=aG hgj q6;replace q7:=aG hgj q7;replace yg:=yg.mono hgj;replace zq:=zq.mono hgj;replace hh:=hh.mono hgj;dsimp only [lca,bM] at H;refine bL (fun _ K9=>?_)
  have YG:∀ (aP bV:Nat) (v:ah) (G G':GH),(∀ k o,G k=some o->G' k=some o)->(fun (aP bV:Nat) (v:ah) (G:GH)=>match bV with|0=>v=(aH b2 0)|1=>v=.slice pA pn pc|2=>av G (.sl 2 (h.props.map aN.dat)) v|3=>v=(aH b8 0)|4=>v=vi h.marks.ins|5=>v=(aH b8 1)|6=>v=vi h.marks.move|7=>v=.agg #[vi h.marks.ins,vi h.marks.move,.slice none 0 0,.slice none 0 0]|8=>∃ A n c,v=.agg #[.slice A n c,vi h.marks.ins,vi h.marks.move,.slice none 0 0,.slice none 0 0]∧av G (.sl 2 (h.props.map aN.dat)) (.slice A n c)|9=>v=(aH aP 0)|_=>True) aP bV v G->(fun (aP bV:Nat) (v:ah) (G:GH)=>match bV with|0=>v=(aH b2 0)|1=>v=.slice pA pn pc|2=>av G (.sl 2 (h.props.map aN.dat)) v|3=>v=(aH b8 0)|4=>v=vi h.marks.ins|5=>v=(aH b8 1)|6=>v=vi h.marks.move|7=>v=.agg #[vi h.marks.ins,vi h.marks.move,.slice none 0 0,.slice none 0 0]|8=>∃ A n c,v=.agg #[.slice A n c,vi h.marks.ins,vi h.marks.move,.slice none 0 0,.slice none 0 0]∧av G (.sl 2 (h.props.map aN.dat)) (.slice A n c)|9=>v=(aH aP 0)|_=>True) aP bV v G':=by
    intro aP bV v G G' hm h
    match bV,h with
    | 0,h=>exact h
    | 1,h=>exact h
    | 2,h=>exact av.mono hm h
    | 3,h=>exact h
    | 4,h=>exact h
    | 5,h=>exact h
    | 6,h=>exact h
    | 7,h=>exact h
    | 8,h=>exact let ⟨A,n,c,h1,h2⟩:=h;⟨A,n,c,h1,h2.mono hm⟩
    | 9,h=>exact h
    | 10,h=>exact trivial
    | _+11,h=>exact trivial
  refine aoq (hmx) [[],[0],[0,1],[],[3],[],[5],ra 3 4,ra 0 8,[],ra 0 10] [10] V V 9 Z (.cells #[.slice none 0 0,vi 0,vi 0,.slice none 0 0,.slice none 0 0] 29 (0,0)) (fun (aP bV:Nat) (v:ah) (G:GH)=>match bV with|0=>v=(aH b2 0)|1=>v=.slice pA pn pc|2=>av G (.sl 2 (h.props.map aN.dat)) v|3=>v=(aH b8 0)|4=>v=vi h.marks.ins|5=>v=(aH b8 1)|6=>v=vi h.marks.move|7=>v=.agg #[vi h.marks.ins,vi h.marks.move,.slice none 0 0,.slice none 0 0]|8=>∃ A n c,v=.agg #[.slice A n c,vi h.marks.ins,vi h.marks.move,.slice none 0 0,.slice none 0 0]∧av G (.sl 2 (h.props.map aN.dat)) (.slice A n c)|9=>v=(aH aP 0)|_=>True) (fun _ _ i v G hi h=>by
    (iterate 11 (rcases i with _|i;(first|exact h|exact absurd M hi)));exact trivial) H ?_ ?_ ?_ V
  · clear H;refine aB ?_ ?_ ?_ ?_ (aB ?_ ?_ ?_ ?_ (bN ?_ (bN ?_ (bN ?_ dz))))
    · intro aP dU aW a w G1 _ _ aK hc hG HT hv;have H:=HT;clear aK;have Hb:=H.full;have H:=Hb;clear hc;refine kH H (Rf zk M ?_);exact H8
    · intro aP dU aW a w G1 _ _ aK hc hG HT hv;have H:=HT;clear aK;have H:=H.aM (hv 0 42 (hc 0 Z) M) M;have Hb:=H.full;have H:=Hb;clear hc;refine kH H (Rg vK M (aG hG (q2 0 _ M)) ?_);exact H8
    · intro aP dU aW a w G1 _ _ aK hc hG HT hv;have H:=HT;clear aK;have H:=H.aM (hv 1 43 (hc 1 Z) M) M;have Hb:=H.full;have H:=Hb;clear hc;refine s_call WI H wn M (aAw _ _ H.ro h.props _ (hh.props.mono hG) O) M ?_;clear H;rintro v44 G44 a w Oq auM H;refine aD ⟨M,?_⟩;exact oV V (YG aP) M M HT Hb hG hv auM (Oq) H
    · intro aP dU aW a w G1 _ _ aK hc hG HT hv;have H:=HT;clear aK;have Hb:=H.full;have H:=Hb;clear hc;refine kH H (Rf tL M ?_);exact H8
    · intro aP dU aW a w G1 _ _ aK hc hG HT hv;have H:=HT;clear aK;have H:=H.aM (hv 3 45 (hc 3 Z) M) M;have Hb:=H.full;have H:=Hb;clear hc;refine kH H (Rg aF M (aG hG (q8 0 _ M)) ?_);exact H8
    · intro aP dU aW a w G1 _ _ aK hc hG HT hv;have H:=HT;clear aK;have Hb:=H.full;have H:=Hb;clear hc;refine kH H (Rf Cu M ?_);exact H8
    · intro aP dU aW a w G1 _ _ aK hc hG HT hv;have H:=HT;clear aK;have H:=H.aM (hv 5 47 (hc 5 Z) M) M;have Hb:=H.full;have H:=Hb;clear hc;refine kH H (Rg aF M (aG hG (q8 1 _ M)) ?_);exact H8
    · intro aP dU aW a w G1 _ _ aK hc hG HT hv;have H:=HT;clear aK;have H:=H.aM (hv 4 46 (hc 4 Z) M) M;have H:=H.aM (hv 6 48 (hc 6 Z) M) M;have Hb:=H.full;have H:=Hb;clear hc;refine jM aay [_,_,_,_] H wn M M M M ?_;exact H8
    · intro aP dU aW a w G1 _ _ aK hc hG HT hv;have H:=HT;clear aK;obtain ⟨u44,axT,Oq⟩:=hv 2 44 (hc 2 Z) M;(try dsimp only at Oq);obtain ⟨A44,n44,c44,rfl⟩:=Oq.form;have H:=H.gU axT;have H:=H.aM (hv 7 49 (hc 7 Z) M) M;have Hb:=H.full;have H:=Hb;clear hc;refine jM Mx [_,_,_,_,_] H wn M M M M ?_;clear H;intro a H;refine aD ⟨M,?_⟩;exact oV V (YG aP) M M HT Hb hG hv (fun _ _ h=>h) (⟨_,_,_,M,Oq⟩) H
    · exact Kk
    intro _ _ _ _ _ _ hB;exact gV
  · clear H;intro o_ aW a w G1 lU _ hc hG HT hv;obtain rfl:_=o_:=Option.some.inj lU;clear lU;have H:=HT;have Hb:=H.full;have H:=Hb;clear hc;refine dW gB H wn M ?_;clear H;intro b9 a w CF H;refine aD ⟨M,b9,?_⟩;exact M4
  clear H;intro b9 a w G mW H hv;have H:=H.aM (hv 9 9 M M) M;obtain ⟨u50,axU,aif⟩:=hv 8 50 Z M;(try dsimp only at aif);obtain ⟨qA,qn,qc,rfl,IX⟩:=aif;have H:=H.gU axU;clear hv;refine bJ gB 0 (vs:=[_,_,_,_,_]) H wn M ?_;clear H;intro w H;replace q2:=fun j v hj=>aG mW (q2 j v hj);replace q8:=fun j v hj=>aG mW (q8 j v hj);replace q6:=aG mW q6;replace q7:=aG mW q7;replace yg:=yg.mono mW;replace zq:=zq.mono mW;replace hh:=hh.mono mW;obtain ⟨Gf,hGf⟩:∃ g,g=G:=⟨_,M⟩;refine aD ⟨M,?_⟩;refine K9 _ _ ?_;clear K9;refine uo (ι:=Int × Int × GH) (Tc:=[(2,_),(4,_),(6,_),(7,_),(8,_),(9,_)]) (Lc:=[(_,_)]) (fun gh=>[]) (fun gh=>[(b9,.cells #[.slice qA qn qc,vi gh.1,vi gh.2.1,.slice none 0 0,.slice none 0 0] 29 (0,0))]) (fun gh=>gh.2.2) (fun gh=>gh.1=(if lH acc h then 0 else h.marks.ins)∧gh.2.1=(if lH acc h then 0 else h.marks.move)∧(∀ b o,G b=some o->gh.2.2 b=some o)) (by exact (H.eD (Pl:=[_,_]) (dK:=[_,_]) [1,0] Z M).sub ⟨M,M,M,M,M,M,aC⟩) ?_ ?_
  · skip;refine kP H (SR fun _ aT=>Rf tL M (Rg aF M (q8 0 _ M) (Rc M (Rm M (Sp 54 M ?_ ?_))))) <;> clear H
    · intro iT a H
      try have p54:=dT iT
      refine kH H (YR Dq iT M q6 (YF tL iT M (YR aF iT M (q8 0 _ M) ?_)));clear H;intro a H;refine lI H (wg H M M iT) M M (yg _ _ (fun _ _ h=>h) H.ro h.marks.ins) M ?_;clear H;rintro v58 G58 a w rfl aFj H;refine kH H (Pt iT M (Kz aT (Cd M ?_ ?_))) <;> clear H aT
      · intro jv a H
        try have p59:=dT jv
        refine kP H (SC (Rf oh M (Rf tL M ?_)));clear H;intro a H;refine bJ aF 0 (vs:=[_]) H wn M ?_;clear H;intro w H;refine kH H (Rf oh M (Rf Cu M ?_));clear H;intro a H;refine bJ aF 0 (vs:=[_]) H wn M ?_;clear H;intro w H;refine aD ?_;refine ⟨(_,_,_),by exact (H.eD (Pl:=[_,_]) (dK:=[_,_]) [1,0] Z M).sub ⟨M,M,M,M,M,M,aC⟩,?_⟩;(try dsimp only)
        first
        | exact ⟨(ay ⟨by assumption,by assumption⟩).symm,(ay ⟨by assumption,by assumption⟩).symm,by assumption⟩
        | exact ⟨(au (fun hi=>by simp_all [lH])).symm,(au (fun hi=>by simp_all [lH])).symm,by first|assumption|exact fun _ _ h=>h⟩
      intro jv a H
      try have p59:=dF jv
      refine iD ?_;refine ⟨(_,_,_),by exact (H.eD (Pl:=[_,_]) (dK:=[_,_]) [1,0] Z M).sub ⟨M,M,M,M,M,M,aC⟩,?_⟩;(try dsimp only)
      first
      | exact ⟨(ay ⟨by assumption,by assumption⟩).symm,(ay ⟨by assumption,by assumption⟩).symm,by assumption⟩
      | exact ⟨(au (fun hi=>by simp_all [lH])).symm,(au (fun hi=>by simp_all [lH])).symm,by first|assumption|exact fun _ _ h=>h⟩
    intro iT a H
    try have p54:=dF iT
    refine kH H (aU iT M (aU iT M (Pf iT M (Kz aT (Cf M M ?_)))));clear H aT;intro a H;refine iD ?_;refine ⟨(_,_,_),by exact (H.eD (Pl:=[_,_]) (dK:=[_,_]) [1,0] Z M).sub ⟨M,M,M,M,M,M,aC⟩,?_⟩;(try dsimp only)
    first
    | exact ⟨(ay ⟨by assumption,by assumption⟩).symm,(ay ⟨by assumption,by assumption⟩).symm,by assumption⟩
    | exact ⟨(au (fun hi=>by simp_all [lH])).symm,(au (fun hi=>by simp_all [lH])).symm,by first|assumption|exact fun _ _ h=>h⟩
  clear H;rintro ⟨io,mo,gk⟩ a w hI H;dsimp only at hI H;obtain ⟨hio,hmo,sU⟩:=hI;replace q2:=fun j v hj=>aG sU (q2 j v hj);replace q8:=fun j v hj=>aG sU (q8 j v hj);replace q6:=aG sU q6;replace q7:=aG sU q7;replace yg:=yg.mono sU;replace zq:=zq.mono sU;replace hh:=hh.mono sU;replace IX:=IX.mono sU;dsimp only [lca,bM] at H;refine kP H (SQ fun _ bR=>SR fun _ cu=>Rf qH M (Rg qO M (q8 2 _ M) (Rl mQ M (Rm M (Kz cu (SB ?_))))));clear H cu;intro a H;skip;refine fD (ι:=Nat × ah × List ah × OL × GH) (Tc:=[(2,_),(4,_),(6,_),(7,_),(9,_),(65,_),(66,_)]) (Lc:=[(_,_)]) (fun gh=>[(67,vi gh.1)]) (fun gh=>[(b9,.cells #[.slice qA qn qc,vi io,vi mo,gh.2.1,.slice none 0 0] 29 (0,0))]++gh.2.2.2.1) (fun gh=>gh.2.2.2.2) (fun gh=>gh.1<=h.marks.bD.length∧bY 159 2 gh.2.1 ((h.marks.bD.take gh.1).filter fun x=>!rej x.rev).length gh.2.2.1 gh.2.2.2.1∧dx gh.2.2.2.2 2 (((h.marks.bD.take gh.1).filter fun x=>!rej x.rev).map gT.dat) gh.2.2.1∧(∀ b o,gk b=some o->gh.2.2.2.2 b=some o)) (fun gh=>h.marks.bD.length - gh.1) ((0,.slice none 0 0,[],[],gk)) (by exact (H.Jm (A:=[_,_])).sub ⟨M,M,M,M,M,M,M,M,aC⟩) ?_ ?_
  · exact Kh
  clear H;rintro ⟨k,v,xs,Ld,g⟩ a w hI H;dsimp only at hI H;obtain ⟨hk,hrw,fu,hgm⟩:=hI;have hfl:=List.length_filter_le (fun x:gT=>!rej x.rev) (h.marks.bD.take k);rw [List.length_take] at hfl;dsimp only [lca,bM] at H;refine kP H (SR fun _ dw=>Rc M (Kz dw (SQ fun _ dB=>Cd M ?_ ?_))) <;> clear H dw
  · intro h68 a H
    try have p68:=dT h68
    have hk2:k < h.marks.bD.length:=by omega
    obtain ⟨bd,od,rfl,hrow⟩:=QW (hh.bD.mono hgm) hk2;refine kP H (Kc dB (SQ fun _ dX=>SB (SR fun _ eu=>Ri mQ oJ M M ?_)));clear H dB;intro a H;refine bQ oJ (cs:=[_,_]) H wn M M (fun j v hj=>H.hp.aI (hrow j v hj)) M ?_;clear H;intro a H;refine dW oJ H wn M ?_;clear H;intro b11 a w KV H;refine bJ oJ 0 (vs:=[_,_]) H wn M ?_;clear H;intro w H;refine eu _ _ ?_;clear eu;refine kP H (SR fun _ dN=>Rg Dq M (aG hgm q7) (bC Fg aF 0 M M ?_));clear H;intro a H;refine lI H wn M M (zq _ _ hgm H.ro h.marks.bD[k].rev) M ?_;clear H;rintro v74 G74 a w rfl R4 H;refine kH H (Rn M (Kz dN (Cd M ?_ ?_))) <;> clear H dN
    · intro Ag a H
      try have p75:=dT Ag
      refine kP H (SC (Rf oh M (bC qH qO 2 M M ?_)));clear H;intro a H;refine bQ oJ (cs:=[_,_]) H wn M M (H.hp.dG 0 M M) M ?_;clear H;intro a H;refine iV mQ oJ [_,_] [_,_] H wn M M M M M (by intro i q h;match i,h with|0,h=>exact h|n+1,h=>simp at h) M M ?_;clear H;intro b80 a w aEY H;refine ny (Li:=[_,_,_,_]) (Lo:=Ld) (news:=h.marks.bD[k].cells) mQ oJ M M H wn M M hrw M (H.hp.dG 0 M M) M O O M ?_;clear H;intro v81 amS a w aiE H;obtain ⟨A81,c81,rfl,-,-⟩:=aiE.shape;refine kH H (Rf oh M (Rf qH M ?_));clear H;intro a H;refine bJ qO 3 (vs:=[_]) H wn M ?_;clear H;intro w H;refine kH H (Kn dX (SC (Rd M (Rm M ?_))));clear H dX;intro a H;refine aD ?_;refine dQ ((k+1,_,xs++h.marks.bD[k].cells,amS,G74)) (by exact (H.eD (Pl:=[_,_,_,_]) (dK:=[_,_]) [2,3] Z M).sub ⟨M,M,M,M,M,M,M,M,aC⟩) ?_
      (try dsimp only);exact ⟨O,by rw [jK hk2,List.filter_append,List.filter_cons_of_pos (by simp_all),List.filter_nil,gF];exact aiE,by rw [jK hk2,List.filter_append,List.filter_cons_of_pos (by simp_all),List.filter_nil,ji];exact (fu.mono R4).snoc (afh _ _) M,fun b o h=>R4 b o (hgm b o h)⟩
    intro Ag a H
    try have p75:=dF Ag
    refine kP H (Kc dX (SC (Rd M (Rm M ?_))));clear H dX;intro a H;refine aD ?_;refine dQ ((k+1,v,xs,Ld,G74)) (by exact (H.eD (Pl:=[_,_,_]) (dK:=[_,_]) [1,2] Z M).sub ⟨M,M,M,M,M,M,M,M,aC⟩) ?_
    (try dsimp only);exact ⟨O,by rw [jK hk2,List.filter_append,List.filter_cons_of_neg (by simp_all),List.filter_nil,fG];exact hrw,by rw [jK hk2,List.filter_append,List.filter_cons_of_neg (by simp_all),List.filter_nil,fG];exact fu.mono R4,fun b o h=>R4 b o (hgm b o h)⟩
  intro h68 a H
  try have p68:=dF h68
  obtain rfl:k=h.marks.bD.length:=by omega
  rw [uV] at hrw fu;obtain ⟨Gr,hmr,hdr,H⟩:=St.qh (Li:=[_,_]) H hrw (rows:=(h.marks.bD.filter fun x=>!rej x.rev).map gT.dat) (by simp) fu;obtain ⟨rA,rn,rc,rfl⟩:=hdr.form;(try dsimp only [lca,bM] at H);have hgr:∀ b o,gk b=some o->Gr b=some o:=fun b o h=>hmr b o (hgm b o h);replace q2:=fun j v hj=>aG hgr (q2 j v hj);replace q8:=fun j v hj=>aG hgr (q8 j v hj);replace q6:=aG hgr q6;replace q7:=aG hgr q7;replace yg:=yg.mono hgr;replace zq:=zq.mono hgr;replace hh:=hh.mono hgr;replace IX:=IX.mono hgr;refine dY ?_;refine bR _ _ ?_;clear bR;refine bL (fun _ eO=>?_);refine cZ (fun _ gD=>?_);refine bQ gB (cs:=[.slice pA pn pc,vi h.marks.ins,vi h.marks.move,.slice dA h.marks.bD.length dc,.slice lA ln lc]) H wn M M (fun j v hj=>H.hp.aI (q2 j v hj)) M ?_;clear H;intro a H;refine s_call aqY H wn M (azq _ _ H.ro h _ _ _ hh O) M ?_;clear H;rintro v86 G86 a w ⟨bg,rfl,hit⟩ FJ H;obtain ⟨all,hall⟩:∃ L,L=rX h.marks.layers.length h.marks.layers:=⟨_,M⟩;rw [<- hall] at hit;obtain ⟨hfl,hne⟩:=Io h.marks.layers.length h.marks.layers (dS _);rw [<- hall] at hfl hne;have hsum:∀ k,k<=all.length->k<=((all.take k).flatMap Prod.snd).length∧((all.take k).flatMap Prod.snd).length<=h.marks.layers.length:=aut hfl hne;replace q2:=fun j v hj=>aG FJ (q2 j v hj);replace q6:=aG FJ q6;replace q7:=aG FJ q7;replace yg:=yg.mono FJ;replace zq:=zq.mono FJ;replace hh:=hh.mono FJ;replace IX:=IX.mono FJ;replace hdr:=hdr.mono FJ;refine gD _ _ ?_;clear gD;refine AY ?_;skip;refine QE (ι:=ah × List aN × ah × List bW × List ah × OL) (κ:=Empty) (Lc:=[(_,_)]) (fun (k:Nat) (gh:ah × List aN × ah × List bW × List ah × OL)=>[(b9,.cells #[gh.1,vi io,vi mo,.slice rA rn rc,gh.2.2.1] 29 (0,0))]) (fun (k:Nat) (gh:ah × List aN × ah × List bW × List ah × OL)=>gh.2.2.2.2.2) (fun (k:Nat) (gh:ah × List aN × ah × List bW × List ah × OL) (g:GH)=>av g (.sl 2 (gh.2.1.map aN.dat)) gh.1∧bY 161 4 gh.2.2.1 gh.2.2.2.1.length gh.2.2.2.2.1 gh.2.2.2.2.2∧dx g 4 (gh.2.2.2.1.map bW.dat) gh.2.2.2.2.1∧uq acc rej h.props (all.drop k) (gh.2.1,gh.2.2.2.1)=uq acc rej h.props all (h.props,[])∧gh.2.1.length<=h.props.length+k∧gh.2.2.2.1.length<=((all.take k).flatMap Prod.snd).length) (fun x=>x.elim) (fun x=>x.elim) (fun x=>x.elim) (fun x=>x.elim) ((.slice qA qn qc,h.props,.slice none 0 0,[],[],[])) (by exact H.Jm (A:=[_,_])) M afJ (hit) (fun _ _ h=>h) M (fun k args g h=>by obtain ⟨_,_,_,rfl,_⟩:=agX h;rfl) (fun k i G G' hm h=>⟨h.1.mono hm,h.2.1,h.2.2.1.mono hm,h.2.2.2⟩) (fun x=>x.elim) (⟨IX,bY.nil,dx.nil,M,dS _,kY _⟩) ?_ ?_ ?_
  · clear H;intro l16 Da zY bk k args gh vQ w16 F16 B16 a awr uH hI avB awQ aFt H;obtain ⟨pv,ps,vy,ly,xs,Ly⟩:=gh;dsimp only at hI H;obtain ⟨hk,tA,tc,rfl,hlr⟩:=agX awr;dsimp only [yP,List.cons_append,List.nil_append] at H;obtain ⟨hpv,hrw,fu,hdc,hpl,hll⟩:=hI;obtain ⟨pvA,pvn,pvc,rfl⟩:=hpv.form;obtain ⟨vyA,vyc,rfl,-,-⟩:=hrw.shape;obtain ⟨key,hkey⟩:∃ x,x=all[k].1:=⟨_,M⟩;obtain ⟨ls,hls⟩:∃ x,x=all[k].2:=⟨_,M⟩;rw [<- hls] at hlr;rw [<- hkey,<- hls] at H;have hs1:=hsum k O;have hs2:=hsum (k+1) O
    have hs3:((all.take (k+1)).flatMap Prod.snd).length=((all.take k).flatMap Prod.snd).length+ls.length:=by rw [jK hk,List.flatMap_append,gF,hls];simp
    have I5:=aDd h.props key ls;refine kP H (SR fun _ fF=>aj fF M (SC (Ra M ?_)));clear H fF;intro a H;refine aD ?_;refine avB _ _ _ _ _ _ (by exact H) ?_;clear H;intro w H;refine kP H (SB (SR fun _ gK=>aj gK M (SQ fun _ jg=>SR fun _ kX=>Rm M (Rl mq M (Rm M (Kz kX (SB ?_)))))));clear H gK kX;intro a H;skip;refine fD (ι:=Nat × ah × List ah × OL × GH) (Tc:=[(2,_),(6,_),(7,_),(9,_),(12,_),(13,_),(89,_),(90,_)]) (Lc:=[(_,_),(_,_),(_,_)]) (fun gh=>[(14,gh.2.1),(91,vi gh.1)]) (fun gh=>[]++((bk++Ly)++gh.2.2.2.1)) (fun gh=>gh.2.2.2.2) (fun gh=>gh.1<=ls.length∧bY 242 2 gh.2.1 gh.1 gh.2.2.1 gh.2.2.2.1∧dx gh.2.2.2.2 2 ((ls.take gh.1).map fun y=>O7 (y.before,y.had)) gh.2.2.1∧(∀ b o,vQ b=some o->gh.2.2.2.2 b=some o)) (fun gh=>ls.length - gh.1) ((0,.slice none 0 0,[],[],vQ)) (by exact (H.Jm (A:=[_,_,_])).sub ⟨M,M,M,M,M,M,M,M,M,M,aC⟩) ?_ ?_
    · exact Kh
    clear H;rintro ⟨i,vs,xs2,Ls,g2⟩ a w hI H;dsimp only at hI H;obtain ⟨hi,hrw2,Ah,jW⟩:=hI;dsimp only [lca,bM] at H;refine kP H (SR fun _ kQ=>Rc M (Kz kQ (SQ fun _ jP=>Cd M ?_ ?_))) <;> clear H kQ
    · intro Iy a H
      try have Mh:=dT Iy
      have hi2:i < ls.length:=by omega
      obtain ⟨bl,ol,rfl,hrow⟩:=F4 (hlr.mono jW) hi2;refine kP H (Kc jP (SQ fun _ mE=>SB (SR fun _ mF=>Ri mq jY M M ?_)));clear H jP;intro a H;refine bQ jY (cs:=[_,_,_,_]) H wn M M (fun j v hj=>H.hp.aI (hrow j v hj)) M ?_;clear H;intro a H;refine dW jY H wn M ?_;clear H;intro b16 a w avp H;refine bJ jY 0 (vs:=[_,_,_,_]) H wn M ?_;clear H;intro w H;refine mF _ _ ?_;clear mF;refine kP H (SC (Rm M ?_));clear H;intro a H;refine bQ jY (cs:=[_,_,_,_]) H wn M M (H.hp.dG 0 M M) M ?_;clear H;intro a H;refine s_call aqZ H wn M (anA _ _ H.ro ls[i]) M ?_;clear H;rintro v97 G97 a w rfl ahS H;refine iV MF tZ [_,_] [_,_] H wn M M M M M (by intro i q h;match i,h with|0,h=>exact h|n+1,h=>simp at h) M M ?_;clear H;intro b98 a w aE0 H;refine ny (Li:=[_,_,_,_,_]++(bk++Ly)) (Lo:=Ls) (news:=[vi ls[i].before,.bool ls[i].had]) MF tZ M M (St.un (A:=[_,_,_,_,_]) H) wn M M hrw2 M (H.hp.dG 0 M M) M O O M ?_;clear H;intro v99 anb a w axy H;have H:=H.assoc;dsimp only [lca,bM] at H;refine kH H (bF mE M (SC (Rd M (Rm M ?_))));clear H mE;intro a H;refine aD ?_;refine dQ ((i+1,v99,xs2++[vi ls[i].before,.bool ls[i].had],anb,G97)) (by exact (H.eD (Pl:=[_,_,_,_,_]) (dK:=[_,_,_]) [2,3,4] Z M).sub ⟨M,M,M,M,M,M,M,M,M,M,aC⟩) ?_
      (try dsimp only);exact ⟨O,axy,by rw [jK hi2,ji];exact (Ah.mono ahS).snoc (alx _ (ls[i].before,ls[i].had)) M,fun b o h=>ahS b o (jW b o h)⟩
    intro Iy a H
    try have Mh:=dF Iy
    obtain rfl:i=ls.length:=by omega
    rw [uV] at Ah;refine dY ?_;refine jg _ _ ?_;clear jg;refine kP H (SR fun _ jQ=>Rm M ?_);clear H;intro a H;refine bQ gB (cs:=[.slice pA pn pc,vi h.marks.ins,vi h.marks.move,.slice dA h.marks.bD.length dc,.slice lA ln lc]) H wn M M (fun j v hj=>H.hp.aI (aG jW (aG uH (q2 j v hj)))) M ?_;clear H;intro a H;refine kH H (Rm M ?_);clear H;intro a H;refine s_call ara H wn M (aAB _ _ H.ro h _ _ _ (hh.mono fun b o h=>jW b o (uH b o h)) key O) M ?_;clear H;rintro aDJ aEp a w rfl ahK H;refine iV MF tZ [_,_] [_,_] H wn M M M M M (by intro i q h;match i,h with|0,h=>exact h|n+1,h=>simp at h) M M ?_;clear H;intro aEy a w aEK H;refine ny (Li:=[_,_,_,_]++(bk++Ly)) (Lo:=Ls) (news:=[vi (lG h.props key).1,.bool (lG h.props key).2]) MF tZ M M (St.un (A:=[_,_,_,_]) H) wn M M hrw2 M (H.hp.dG 0 M M) M O O M ?_;clear H;intro aFO aEw a w axq H;obtain ⟨Gs,hms,Si,H⟩:=St.qh (Li:=[_,_,_,_]++(bk++Ly)) H axq (rows:=(qo h.props key ls).map O7) (by simp [qo]) (by have h1:=(Ah.mono ahK).snoc (alx _ (lG h.props key)) M;simpa [qo,ji,List.map_map,Function.comp_def] using h1);dsimp only [lca,bM] at H;obtain ⟨sA,sc,rfl,-,-,-⟩:=Si.slice;rw [bK,I5] at Si H;have hgs:∀ b o,vQ b=some o->Gs b=some o:=fun b o h=>hms b o (ahK b o (jW b o h));refine kH H (aj jQ M (SR fun _ oM=>aj oM M (SQ fun _ pQ=>SR fun _ oN=>Rm M (Rl mq M (Rm M (Kz oN (SB ?_)))))));clear H jQ oM oN;intro a H;skip;refine fD (ι:=Nat × Nat × GH) (Tc:=[(6,_),(7,_),(9,_),(12,_),(13,_),(14,_),(107,_),(108,_)]) (Lc:=[(_,_),(_,_),(_,_),(_,_)]) (fun gh=>[(17,vi gh.2.1),(109,vi gh.1)]) (fun gh=>[]++(bk++Ly)) (fun gh=>gh.2.2) (fun gh=>gh.1<=ls.length∧gh.2.1<=gh.1∧jh acc (ls.drop gh.1) gh.1 gh.2.1=jh acc ls 0 0∧(∀ b o,Gs b=some o->gh.2.2 b=some o)) (fun gh=>ls.length - gh.1) ((0,0,Gs)) (by exact H.sub ⟨M,M,M,M,M,M,M,M,M,M,aC⟩) ?_ ?_
    · exact ⟨O,dS _,by rw [uX],fun _ _ h=>h⟩
    clear H;rintro ⟨i2,c2,g3⟩ a w hI H;dsimp only at hI H;obtain ⟨hi3,hc3,hfs,rC⟩:=hI;dsimp only [lca,bM] at H;refine kP H (SR fun _ qz=>Rc M (Kz qz (SQ fun _ pW=>Cd M ?_ ?_))) <;> clear H qz
    · intro XD a H
      try have aAj:=dT XD
      have hi4:i2 < ls.length:=by omega
      obtain ⟨bl,ol,rfl,hrow⟩:=F4 (hlr.mono fun b o h=>rC b o (hgs b o h)) hi4;refine kP H (Kc pW (SQ fun _ qR=>SB (SR fun _ vU=>Rm M (Ri mq jY M M ?_))));clear H pW;intro a H;refine bQ jY (cs:=[_,_,_,_]) H wn M M (fun j v hj=>H.hp.aI (hrow j v hj)) M ?_;clear H;intro a H;refine dW jY H wn M ?_;clear H;intro b19 a w avq H;refine kH H (Ra M ?_);clear H;intro a H;refine bJ jY 0 (vs:=[_,_,_,_]) H wn M ?_;clear H;intro w H;refine vU _ _ ?_;clear vU;refine kP H (SR fun _ tC=>Rg Dq M (aG rC (aG hgs (aG uH q6))) (bC Q8 aF 0 M M ?_));clear H;intro a H;refine lI H wn M M (yg _ _ (fun b o h=>rC b o (hgs b o (uH b o h))) H.ro ls[i2].rev) M ?_;clear H;rintro v117 abj a w rfl ahL H;refine tC _ _ ?_;clear tC;refine jL H M ?_ ?_
      · intro Ip
        try have C8:=dT Ip
        refine kP H (SC (Rm M (Rd M (bF qR M (SC (Rd M (Rm M ?_)))))));clear H qR;intro a H;refine aD ?_;refine dQ ((i2+1,i2+1,abj)) (by exact (H.eD (Pl:=[_,_,_,_,_]) (dK:=[_,_,_,_]) [1,2,3,4] Z M).sub ⟨M,M,M,M,M,M,M,M,M,M,aC⟩) ?_
        (try dsimp only);exact ⟨O,dS _,by rw [nK hi4,jh,ay (by assumption)] at hfs;exact hfs,fun b o h=>ahL b o (rC b o h)⟩
      intro Ip
      try have C8:=dF Ip
      refine kP H (Kc qR (SC (Rd M (Rm M ?_))));clear H qR;intro a H;refine aD ?_;refine dQ ((i2+1,c2,abj)) (by exact (H.eD (Pl:=[_,_,_,_,_]) (dK:=[_,_,_,_]) [1,2,3,4] Z M).sub ⟨M,M,M,M,M,M,M,M,M,M,aC⟩) ?_
      (try dsimp only);exact ⟨O,O,by rw [nK hi4,jh,au (by simp_all)] at hfs;exact hfs,fun b o h=>ahL b o (rC b o h)⟩
    intro XD a H
    try have aAj:=dF XD
    obtain rfl:i2=ls.length:=by omega
    rw [List.drop_length,jh] at hfs;have hgt:∀ b o,vQ b=some o->g3 b=some o:=fun b o h=>rC b o (hgs b o h);obtain ⟨bs,os,rfl,hr2⟩:=alA (Si.mono rC) (k:=c2) (by rw [I5];omega);obtain ⟨SX,hn0⟩:∃ s,s=(qo h.props key ls)[c2]'(by rw [I5];omega):=⟨_,M⟩;rw [<- hn0] at hr2
    have hgd:(qo h.props key ls).getD c2 (0,false)=SX:=by rw [hn0,List.getD_eq_getElem?_getD,eB (show c2 < (qo h.props key ls).length by rw [I5];omega)];rfl
    refine dY ?_;refine pQ _ _ ?_;clear pQ;refine kP H (SR fun _ xL=>Rm M (Rm M ?_));clear H;intro a H;refine yG MF tZ c2 H wn M M M O M ?_;clear H;intro a H;refine bQ tZ (cs:=[vi SX.1,.bool SX.2]) H wn M M (fun j v hj=>H.hp.aI (hr2 j v hj)) M ?_;clear H;intro a H;refine dW tZ H wn M ?_;clear H;intro b20 a w aEN H;refine bJ tZ 0 (vs:=[_,_]) H wn M ?_;clear H;intro w H;refine xL _ _ ?_;clear xL;refine kP H (SQ fun _ BX=>SR fun _ BZ=>Rm M (aj BZ M (SB ?_)));clear H BZ;intro a H;skip;refine fD (ι:=Nat × (Int × Bool) × ah × List bW × List ah × OL × GH) (Tc:=[(7,_),(9,_),(12,_),(13,_),(14,_),(20,_)]) (Lc:=[(_,_),(_,_),(_,_)]) (fun gh=>[(21,vi gh.1)]) (fun gh=>[(b20,.cells #[vi gh.2.1.1,.bool gh.2.1.2] 242 (0,0)),(b9,.cells #[.slice pvA pvn pvc,vi io,vi mo,.slice rA rn rc,gh.2.2.1] 29 (0,0))]++(bk++gh.2.2.2.2.2.1)) (fun gh=>gh.2.2.2.2.2.2) (fun gh=>c2<=gh.1∧gh.1<=ls.length∧bY 161 4 gh.2.2.1 gh.2.2.2.1.length gh.2.2.2.2.1 gh.2.2.2.2.2.1∧dx gh.2.2.2.2.2.2 4 (gh.2.2.2.1.map bW.dat) gh.2.2.2.2.1∧gh.2.2.2.1++(uL rej (qo h.props key ls) (ls.drop gh.1) gh.1 gh.2.1).1=ly++(mO acc rej h.props key ls).1∧(uL rej (qo h.props key ls) (ls.drop gh.1) gh.1 gh.2.1).2=(mO acc rej h.props key ls).2∧gh.2.2.2.1.length<=ly.length+gh.1∧(∀ b o,g3 b=some o->gh.2.2.2.2.2.2 b=some o)) (fun gh=>ls.length - gh.1) ((c2,SX,.slice vyA ly.length vyc,ly,xs,Ly,g3)) (by exact (H.eD (Pl:=[_,_,_,_,_]) (dK:=[_,_,_,_,_]) [1,2,3,0,4] Z M).sub ⟨M,M,M,M,M,M,M,aC⟩) ?_ ?_
    · exact ⟨dS _,O,hrw,fu.mono hgt,by rw [mO,<- hfs,hgd],by rw [mO,<- hfs,hgd],by show ly.length<=ly.length+c2;omega,fun _ _ h=>h⟩
    clear H;rintro ⟨i3,now,vy3,Et,xs3,UO,g4⟩ a w hI H;dsimp only at hI H;obtain ⟨hi5,hi6,hrw3,X9,hq1,hq2,hq3,sV⟩:=hI;obtain ⟨wM,wN,rfl,-,-⟩:=hrw3.shape;have hgu:∀ b o,vQ b=some o->g4 b=some o:=fun b o h=>sV b o (hgt b o h);dsimp only [lca,bM] at H;refine kP H (SQ fun _ qU=>SR fun _ DC=>Rm M (Rm M (Rl mq M (Rc M (Kz DC (Cd M ?_ ?_)))))) <;> clear H DC
    · intro XF a H
      try have aAp:=dT XF
      have hi7:i3 < ls.length:=by omega
      obtain ⟨bl,ol,rfl,hrow⟩:=F4 (hlr.mono hgu) hi7;rw [nK hi7,uL] at hq1 hq2;refine kP H (Kc qU (SQ fun _ Ca=>SB (SQ fun _ GV=>SQ fun _ EU=>?_)));clear H qU;intro a H;refine dI hmx [[],[],[],[1,2],[1,2,3],ra 1 4,ra 0 6] [6] V [_,_,_,(aH bl (ol+i3*4)),_,_] H (aB (X0 M fun hG=>Rg Dq M (aG hG (aG hgu (aG uH q7)))) (Z0 M (Rm M)) (Z0 M (Rm M)) ?_ (bN (Z1 3 135 M (Rf Q8 M)) (bN (X1 4 136 M fun hG=>Rg aF M (aG hG (hrow 0 _ M))) (bN (bS M) dz)))) ?_
      · refine eT 1 133 2 134 M M fun _ a w G1 hG HT H fin=>?_;refine yG mq jY i3 H wn M M M O M ?_;exact jH
      clear H;intro a w G Ed H hv;have H:=H.aM (hv 0 132 M M) M;have H:=H.aM (hv 5 137 M M) M;clear hv;refine lI H wn M M (zq _ _ (fun b o h=>Ed b o (hgu b o (uH b o h))) H.ro ls[i3].rev) M ?_;clear H;rintro v138 amP a w rfl KZ H;refine aD ⟨M,?_⟩;refine EU _ _ ?_;clear EU;refine jL H M ?_ ?_
      · intro XG
        try have aAr:=dT XG
        refine dY ?_;refine Ca _ _ ?_;clear Ca;refine kP H (SC (Rm M (Rd M (Ra M ?_))));clear H;intro a H;refine aD ?_;refine dQ ((i3+1,now,.slice wM Et.length wN,Et,xs3,UO,amP)) (by exact H.sub ⟨M,M,M,M,M,M,M,aC⟩) ?_
        (try dsimp only);exact ⟨O,O,hrw3,X9.mono fun b o h=>KZ b o (Ed b o h),by rw [ay (by assumption)] at hq1;exact hq1,by rw [ay (by assumption)] at hq2;exact hq2,O,fun b o h=>KZ b o (Ed b o (sV b o h))⟩
      intro XG
      try have aAr:=dF XG
      rw [au (by simp_all)] at hq1 hq2;refine iD ?_;refine GV _ _ ?_;clear GV;refine bL (fun _ GX=>?_)
      have aio:∀ (aP bV:Nat) (v:ah) (G G':GH),(∀ k o,G k=some o->G' k=some o)->(fun (aP bV:Nat) (v:ah) (G:GH)=>match bV with|0=>v=(aH b9 1)|1=>v=(aH b9 4)|2=>v=.slice wM Et.length wN|3=>v=.slice (some ⟨bl,ol,none⟩) ls.length tc|4=>v=vi i3|5=>v=(aH bl (ol+i3*4))|6=>v=.agg ls[i3].cells.toArray|7=>v=JA now|8=>v=.agg (bW.cells ⟨ls[i3].rev,ls[i3].key,now.1,now.2⟩).toArray|9=>v=.slice (some ⟨aP,0,none⟩) 1 1|_=>True) aP bV v G->(fun (aP bV:Nat) (v:ah) (G:GH)=>match bV with|0=>v=(aH b9 1)|1=>v=(aH b9 4)|2=>v=.slice wM Et.length wN|3=>v=.slice (some ⟨bl,ol,none⟩) ls.length tc|4=>v=vi i3|5=>v=(aH bl (ol+i3*4))|6=>v=.agg ls[i3].cells.toArray|7=>v=JA now|8=>v=.agg (bW.cells ⟨ls[i3].rev,ls[i3].key,now.1,now.2⟩).toArray|9=>v=.slice (some ⟨aP,0,none⟩) 1 1|_=>True) aP bV v G':=by
        intro aP bV v G G' hm h
        match bV,h with
        | 0,h=>exact h
        | 1,h=>exact h
        | 2,h=>exact h
        | 3,h=>exact h
        | 4,h=>exact h
        | 5,h=>exact h
        | 6,h=>exact h
        | 7,h=>exact h
        | 8,h=>exact h
        | 9,h=>exact h
        | 10,h=>exact trivial
        | 11,h=>exact trivial
        | 12,h=>exact trivial
        | 13,h=>exact trivial
        | _+14,h=>exact trivial
      refine aor (hmx) [[],[0],[0,1],[],[],[3,4],[3,4,5],[],ra 3 5,ra 3 6,ra 0 10,ra 0 11,ra 0 12,ra 0 13] (ra 10 4) V V 9 Z (.cells #[vi ls[i3].rev,vi ls[i3].key,vi now.1,.bool now.2] 161 (0,0)) (fun (aP bV:Nat) (v:ah) (G:GH)=>match bV with|0=>v=(aH b9 1)|1=>v=(aH b9 4)|2=>v=.slice wM Et.length wN|3=>v=.slice (some ⟨bl,ol,none⟩) ls.length tc|4=>v=vi i3|5=>v=(aH bl (ol+i3*4))|6=>v=.agg ls[i3].cells.toArray|7=>v=JA now|8=>v=.agg (bW.cells ⟨ls[i3].rev,ls[i3].key,now.1,now.2⟩).toArray|9=>v=.slice (some ⟨aP,0,none⟩) 1 1|_=>True) (fun _ _ i v G hi h=>by
        (iterate 14 (rcases i with _|i;(first|exact h|exact absurd M hi)));exact trivial) H ?_ ?_ ?_ V
      · clear H;refine aB ?_ ?_ ?_ ?_ (aB ?_ ?_ ?_ ?_ (aB ?_ ?_ ?_ ?_ (bN ?_ (bN ?_ dz))))
        · intro aP dU aW a w G1 fE _ _ aK hc hG HT hv;have H:=HT;clear aK;have Hb:=H.full;have H:=Hb;clear hc;refine kH H (Rf oh M ?_);exact H7
        · intro aP dU aW a w G1 fE _ _ aK hc hG HT hv;have H:=HT;clear aK;have H:=H.aM (hv 0 139 (hc 0 Z) M) M;have Hb:=H.full;have H:=Hb;clear hc;refine kH H (Rf Bd M ?_);exact H7
        · intro aP dU aW a w G1 fE _ _ aK hc hG HT hv;have H:=HT;clear aK;have H:=H.aM (hv 1 140 (hc 1 Z) M) M;have Hb:=H.full;have H:=Hb;clear hc;refine sF BQ H wn M (H.hp.BF (fE _ (gI _ (gI _ (gI _ (gI _ dV))))) M) M ?_;exact H7
        · exact adh
        · exact adh
        · intro aP dU aW a w G1 fE _ _ aK hc hG HT hv;have H:=HT;clear aK;have H:=H.aM (hv 3 142 (hc 3 Z) M) M;have H:=H.aM (hv 4 143 (hc 4 Z) M) M;have Hb:=H.full;have H:=Hb;clear hc;refine yG mq jY i3 H wn M M M O M ?_;exact H7
        · intro aP dU aW a w G1 fE _ _ aK hc hG HT hv;have H:=HT;clear aK;have H:=H.aM (hv 5 144 (hc 5 Z) M) M;have Hb:=H.full;have H:=Hb;clear hc;refine bQ jY (cs:=ls[i3].cells) H wn M M (fun j v hj=>H.hp.aI (aG hG (aG KZ (aG Ed (hrow j v hj))))) M ?_;exact H7
        · intro aP dU aW a w G1 fE _ _ aK hc hG HT hv;have H:=HT;clear aK;have Hb:=H.full;have H:=Hb;clear hc;refine bQ tZ (cs:=[vi now.1,.bool now.2]) H wn M M (fun j v hj=>H.hp.BF (fE _ (gI _ (gI _ (gI _ dV)))) (by simpa using hj)) M ?_;exact H7
        · intro aP dU aW a w G1 fE _ _ aK hc hG HT hv;have H:=HT;clear aK;have H:=H.aM (hv 6 145 (hc 6 Z) M) M;have H:=H.aM (hv 7 146 (hc 7 Z) M) M;have Hb:=H.full;have H:=Hb;clear hc;refine s_call arb H wn M (auk _ _ H.ro ls[i3] now) M ?_;clear H;rintro aFT aEr a w rfl auz H;refine aD ⟨M,?_⟩;exact oV V (aio aP) M M HT Hb hG hv auz (rfl) H
        · exact zW
        · exact HY
        · exact HY
        · exact HY
        exact Kk
      · clear H;intro o_ aW a w G1 lU _ hc hG HT hv;obtain rfl:_=o_:=Option.some.inj lU;clear lU;have H:=HT;have H:=H.aM (hv 0 8 147 Z (hc 8 Z) M) M;have Hb:=H.full;have H:=Hb;clear hc;refine iV mq jY [_,_,_,_] [_,_,_,_] H wn M M M M M (by intro i q h;match i,h with|0,h=>exact h|n+1,h=>simp at h) M M ?_;clear H;intro abG a w aEM H;refine aD ⟨M,abG,?_⟩;exact M4
      clear H;intro abG a w G NW H hv;have H:=H.aM (hv 2 141 M M) M;have H:=H.aM (hv 9 148 M M) M;clear hv;refine ny (Li:=[_,_,_,_,_,_]++bk) (Lo:=UO) (news:=bW.cells ⟨ls[i3].rev,ls[i3].key,now.1,now.2⟩) mq jY M M (St.un (A:=[_,_,_,_,_,_]) H) wn M M hrw3 M (H.hp.dG 0 M M) M O O M ?_;clear H;intro aFU ang a w aiB H;obtain ⟨aEm,aEB,rfl,-,-⟩:=aiB.shape;have H:=H.assoc;dsimp only [lca,bM] at H;refine kH H (Rf oh M (Rf Bd M ?_));clear H;intro a H;refine bJ BQ 5 (vs:=[_]) H wn M ?_;clear H;intro w H;refine aD ⟨M,?_⟩;refine GX _ _ ?_;clear GX;obtain ⟨_,_,he,hr3⟩:=alA (Si.mono fun b o h=>NW b o (KZ b o (Ed b o (sV b o (rC b o h))))) (k:=i3+1) (by rw [I5];omega)
      injection he with he
      injection he with e1 e2
      subst e1 e2;obtain ⟨nx,hn1⟩:∃ s,s=(qo h.props key ls)[i3+1]'(by rw [I5];omega):=⟨_,M⟩;rw [<- hn1] at hr3
      have hnx:nx=(qo h.props key ls).getD (i3+1) (0,false):=by rw [hn1,List.getD_eq_getElem?_getD,eB (show i3+1 < (qo h.props key ls).length by rw [I5];omega)];rfl
      refine kP H (SC (Rm M (Rm M (Rd M ?_))));clear H;intro a H;refine yG MF tZ (i3+1) H wn M M O O M ?_;clear H;intro a H;refine bQ tZ (cs:=[vi nx.1,.bool nx.2]) H wn M M (fun j v hj=>H.hp.aI (hr3 j v hj)) M ?_;clear H;intro a H;refine bJ tZ 4 (vs:=[_,_]) H wn M ?_;clear H;intro w H;refine kH H (Kn Ca (SC (Rm M (Rd M (Ra M ?_)))));clear H Ca;intro a H;refine aD ?_;refine dQ ((i3+1,nx,_,Et++[⟨ls[i3].rev,ls[i3].key,now.1,now.2⟩],xs3++bW.cells ⟨ls[i3].rev,ls[i3].key,now.1,now.2⟩,ang,_)) (by exact (H.eD (Pl:=[_,_,_,_,_,_]) (dK:=[_,_,_,_,_]) [1,2,3,4,5] Z M).sub ⟨M,M,M,M,M,M,M,aC⟩) ?_
      (try dsimp only);exact ⟨O,O,by rw [gF];exact aiB,by rw [ji];exact (X9.mono fun b o h=>NW b o (KZ b o (Ed b o h))).snoc (ayR _ ⟨ls[i3].rev,ls[i3].key,now.1,now.2⟩) M,by rw [iL,hnx];exact hq1,by rw [hnx];exact hq2,by rw [gF];show Et.length+1<=_;omega,fun b o h=>NW b o (KZ b o (Ed b o (sV b o h)))⟩
    intro XF a H
    try have aAp:=dF XF
    obtain rfl:i3=ls.length:=by omega
    rw [List.drop_length,uL] at hq1 hq2;rw [fG] at hq1;have hq4:=Xz acc rej h.props key ls;refine dY ?_;refine BX _ _ ?_;clear BX;refine oQ ?_;refine bQ gB (cs:=[_,_,_,_,_]) H wn M M (H.hp.dG 4 M M) M ?_;clear H;intro a H;refine kH H (Rm M ?_);clear H;intro a H;refine bQ tZ (cs:=[_,_]) H wn M M (H.hp.dG 3 M M) M ?_;clear H;intro a H;refine s_call ard H wn M (aD5 _ _ H.ro ps io mo _ _ _ _ _ _ _ (hpv.mono hgu) key now O) M ?_;clear H;rintro v160 aEs a w ⟨aFI,rfl,aic⟩ awy H;obtain ⟨amK,n160,c160,rfl⟩:=aic.form;refine bJ gB 4 (vs:=[_,_,_,_,_]) H wn M ?_;clear H;intro w H;refine aD ?_;refine awQ ((.slice amK n160 c160,vN ps key now,_,Et,xs3,UO)) _ _ _ _ _ (by exact H.eD (Pl:=[_,_,_,_,_]) (dK:=[_,_,_]) [1,2,4] Z M) ?_;exact ⟨aic,hrw3,X9.mono awy,by rw [<- hdc,nK hk,uq,<- hkey,<- hls,<- hq1,<- hq2],by have:=ams ps key now;show (vN ps key now).length<=_;omega,by show Et.length<=_;rw [hs3,hq1,gF];omega⟩
  · clear H;intro aEn gh aEt a w uH hI H;obtain ⟨pv,ps,vy,ly,xs,Ly⟩:=gh;dsimp only at hI H;dsimp only [lca,bM] at H;obtain ⟨hpv,hrw,fu,hdc,hpl,hll⟩:=hI;rw [bK,List.drop_length,uq] at hdc;obtain ⟨pvA,pvn,pvc,rfl⟩:=hpv.form;obtain ⟨vyA,vyc,rfl,-,-⟩:=hrw.shape
    have hdh:gL acc rej h=⟨ps,⟨io,mo,h.marks.bD.filter fun x=>!rej x.rev,ly⟩⟩:=by unfold gL;rw [<- hall,<- hdc,hio,hmo]
    refine eO _ _ ?_;clear eO;refine cZ (fun _ EW=>?_);refine bQ gB (cs:=[_,_,_,_,_]) H wn M M (H.hp.dG 2 M M) M ?_;clear H;intro a H;refine bJ gB 1 (vs:=[_,_,_,_,_]) H wn M ?_;clear H;intro w H;refine kH H (aj EW M ?_);clear H EW;intro a H;refine eP ?_;refine (Je H 0 M ?_).1;clear H;intro a w H;dsimp only [List.eraseIdx_cons_succ,List.eraseIdx_cons_zero] at H;exact Qu
  intro Dk x;exact x.elim
section
def oL (x:Nat->ah × OL) (m:Nat) (y:ah × OL):Nat->ah × OL:=fun j=>if j=m then y else x j
theorem aaR (x:Nat->ah × OL) (m:Nat) (y:ah × OL):oL x m y m=y:=ay M
theorem aaS {x:Nat->ah × OL} {m j:Nat} {y:ah × OL} (h:j≠m):oL x m y j=x j:=au h
def jk (ms:List Nat) (S:Nat->Bool) (x:Nat->ah × OL):OL:=ms.flatMap fun m=>bif S m then (x m).2 else []
theorem agD {S:Nat->Bool} {x:Nat->ah × OL} {y:ah × OL} {m:Nat}:∀ {ms:List Nat},m∉ms->jk ms (dL S m) (oL x m y)=jk ms S x
 | [],_=>rfl
 | k :: ms,h=>by
  have hk:k≠m:=fun e=>h (by simp [e])
  have ih:=agD (S:=S) (x:=x) (y:=y) (ms:=ms) fun hm=>h (gI _ hm)
  unfold jk at ih |-
  rw [List.flatMap_cons,List.flatMap_cons,ih,aaS hk,show dL S m k=S k from au hk]
theorem agE {S:Nat->Bool} {x:Nat->ah × OL} {y:ah × OL} {m:Nat} (hS:S m=false):∀ {ms:List Nat},ms.Nodup->m∈ms->(y.2++jk ms S x).Perm (jk ms (dL S m) (oL x m y))
 | k :: ms,hn,hm=>by
  rw [List.nodup_cons] at hn
  by_cases hk:k=m
  ·subst hk
   have e:=agD (S:=S) (x:=x) (y:=y) hn.1
   unfold jk at e |-
   rw [List.flatMap_cons,List.flatMap_cons,e,aaR,hS,show dL S k k=true from ay M]
   exact List.Perm.refl _
  ·have ih:=agE (S:=S) (x:=x) (y:=y) hS hn.2 (by
    rcases gu.1 hm with e|h
    ·exact absurd e.symm hk
    ·exact h)
   unfold jk at ih |-
   rw [List.flatMap_cons,List.flatMap_cons,aaS hk,show dL S m k=S k from au hk,<- iL]
   refine (List.Perm.append_right _ uU).trans ?_
   rw [iL]
   exact List.Perm.append_left _ ih
section
variable {N:Nat} {D:List Deferred} {w0:World} {F:Nat->Prop} {G0 G G1 G2:GH} {L L1 L2:OL} {T Xs:List (Nat × ah)}
variable {r:Option Nat} {P:Program} {Q:Exit->Act->World->Prop} {l:List Oper} {a a':Act} {w w':World}
theorem V7 {id:Nat} (ms:List Nat) (hm:P.follows .mixedOrders=true) (bT:List (List Nat)) (B:List Nat) (hk:Ab l bT=true) (hB:yJ l bT B=true) (hnd:ms.Nodup) (hms:(ms.all fun m=>Nat.blt m l.length && !B.contains m)=true) (pr:(Nat->ah × OL)->Nat->ah->GH->Prop)
  (hp:∀ m,ms.contains m=true->∀ x y i v G,Nat.beq i m=false->(bT.getD i []).contains m=false->pr x i v G->pr (oL x m y) i v G)
  (H:St N D w0 F G0 G L T a w)
  (hstep:allI (fun i o=>∀ x L' S a w G1,(∀ q,q∈L->q∈L')->B.contains i=false->ms.contains i=false->S i=false->(∀ j∈bT.getD i [],S j=true)->(∀ k o,G k=some o->G1 k=some o)->St N D w0 F G0 G1 L' T a w->(∀ i d,S i=true->eX l i=some d->∃ v,a.tmps[d]?=some v∧pr x i v G1) ->
   WL r P l.toArray (fun e a' w'=>e=.normal∧DX N D w0 F G0 G L' T l (pr x) (dL S i) a' w') [o] a w) 0 l)
  (hmid:allI (fun m o=>ms.contains m=true->∀ x L' S a w G1,(∀ q,q∈L->q∈L')->S m=false->(∀ j∈bT.getD m [],S j=true)->(∀ k o,G k=some o->G1 k=some o)->St N D w0 F G0 G1 L' T a w->(∀ y i d,i≠m->S i=true->eX l i=some d->∃ v,a.tmps[d]?=some v∧pr (oL x m y) i v G1) ->
   WL r P l.toArray (fun e a' w'=>e=.normal∧∃ y,DX N D w0 F G0 G (y.2++L') T l (pr (oL x m y)) (dL S m) a' w') [o] a w) 0 l)
  (hend:∀ x a w G1,(∀ k o,G k=some o->G1 k=some o)->St N D w0 F G0 G1 (jk ms (fun _=>true) x++L) T a w->(∀ i d,B.contains i=false->eX l i=some d->∃ v,a.tmps[d]?=some v∧pr x i v G1)->WL r P l.toArray (fun e a w=>e=.normal∧Q .normal a w) (rH l B) a w):WP r P (.region id l.toArray true) Q a w:=by
 refine Kv hm bT B hk hB (fun S a w=>∃ x,DX N D w0 F G0 G (jk ms S x++L) T l (pr x) S a w)
  ⟨fun _=>(.bool false,[]),DX.perm (L1:=L) ⟨G,fun _ _ h=>h,H.move H.hp.drew,fun _ _ h=>absurd (show false=true from h) Z⟩ (by
   have:∀ ms:List Nat,jk ms (fun _=>false) (fun _=>(.bool false,[]))=[]:=fun ms=>by
    induction ms with
    | nil=>rfl
    | cons k ms ih=>unfold jk at ih |-;rw [List.flatMap_cons,ih];rfl
   rw [this];exact List.Perm.refl _)⟩ ?_ ?_
 ·rintro i o S a w ho hb aK mg hdesc ⟨x,G1,hG,HS,hv⟩
  have hsub:∀ q,q∈L->q∈jk ms S x++L:=fun q hq=>List.mem_append_right _ hq
  have hno:∀ j,j < l.length->S j=true->(bT.getD j []).contains i=false:=fun j hjl hj=>by
   cases hc:(bT.getD j []).contains i with
   | false=>rfl
   | true =>
    have:=hdesc j hjl (by simpa using hc)
    rw [this] at hj;cases hj
  cases hi:ms.contains i with
  | true =>
   have h:=AU hmid i o ho
   rw [gZ] at h
   have h:=h hi x _ S a w G1 hsub aK mg hG HS fun y j d hj hSj hd=>by
    obtain ⟨v,hv1,hv2⟩:=hv j d hSj hd
    exact ⟨v,hv1,hp i hi x y j v _ (wQ hj) (hno j (wS hd) hSj) hv2⟩
   refine qy (fun e a' w' ⟨he,y,hD⟩=>⟨he,oL x i y,hD.perm ?_⟩) h
   rw [<- iL]
   exact List.Perm.append_right L (agE aK hnd (by simpa using hi))
  | false =>
   have h:=AU hstep i o ho
   rw [gZ] at h
   have e:∀ ms:List Nat,i∉ms->jk ms (dL S i) x=jk ms S x:=fun ms hn=>by
    induction ms with
    | nil=>rfl
    | cons k ms ih =>
     have ih:=ih fun h=>hn (gI _ h)
     unfold jk at ih |-
     rw [List.flatMap_cons,List.flatMap_cons,ih,show dL S i k=S k from au fun e=>hn (by simp [e])]
   refine qy (fun e' a' w' ⟨he,hD⟩=>⟨he,x,?_⟩) (h x _ S a w G1 hsub hb hi aK mg hG HS hv)
   rw [e ms (by simpa using hi)]
   exact hD
 ·rintro S a w hall Oi ⟨x,G1,hG,HS,hv⟩
  have hS:∀ m∈ms,S m=true:=fun m hmm=>by
   have h:=jR.1 hms m hmm
   rw [iC] at h
   exact hall m (Eq.mp Nat.blt_eq h.1) (by simpa using h.2)
  have e:∀ ms:List Nat,(∀ m∈ms,S m=true)->jk ms S x=jk ms (fun _=>true) x:=fun ms h=>by
   induction ms with
   | nil=>rfl
   | cons k ms ih =>
    have ih:=ih fun m hm=>h m (gI _ hm)
    unfold jk at ih |-
    rw [List.flatMap_cons,List.flatMap_cons,ih,h k dV]
  replace e:=e ms hS
  rw [e] at HS
  exact hend x a w G1 hG HS fun j d hb hd=>hv j d (hall j (wS hd) hb) hd
end
end
section
theorem W9:aR 98:=aS func98 M
theorem arf:aR 165:=aS func165 M
def EY (fv:ah) (G:GH) (acc rej:Int->Bool):Prop:=∀ (G1:GH) (w1:World),(∀ b o,G b=some o->G1 b=some o)->Hold G1 w1->∀ (h:dD) (p d l:ah),jG G1 h p d l->nH h<=1073741824->uh prog fv [sQ h p d l] w1 (bE w1 G1 (vO acc rej h))
theorem EY.mono {fv:ah} {G G':GH} {acc rej:Int->Bool} (hm:∀ b o,G b=some o->G' b=some o) (h:EY fv G acc rej):EY fv G' acc rej:=fun G1 w1 h1=>h G1 w1 fun b o hb=>h1 b o (hm b o hb)
variable {acc rej:Int->Bool}
def eU (acc rej:Int->Bool) (h:dD):dD:=if lS acc rej h then Dx else gL acc rej h
theorem vO.ans {h:dD} {u:ah} {G:GH} (hd:vO acc rej h u G):∃ pA pn pc dA dn dc lA ln lc,u=.tuple #[.agg #[.slice pA pn pc,vi (eU acc rej h).marks.ins,vi (eU acc rej h).marks.move,.slice dA dn dc,.slice lA ln lc],.bool (!decide (lS acc rej h))]∧jG G (eU acc rej h) (.slice pA pn pc) (.slice dA dn dc) (.slice lA ln lc):=by
 unfold vO at hd
 unfold eU
 by_cases hg:lS acc rej h
 ·rw [ay hg] at hd |-;obtain ⟨p,d,l,rfl,hh⟩:=hd;obtain ⟨pA,pn,pc,rfl⟩:=hh.props.form;obtain ⟨dA,dn,dc,rfl⟩:=hh.bD.form;obtain ⟨lA,ln,lc,rfl⟩:=hh.layers.form;exact ⟨pA,pn,pc,dA,dn,dc,lA,ln,lc,by simp [hg],hh⟩
 rw [au hg] at hd |-;obtain ⟨p,d,l,rfl,hh⟩:=hd;obtain ⟨pA,pn,pc,rfl⟩:=hh.props.form;obtain ⟨dA,dn,dc,rfl⟩:=hh.bD.form;obtain ⟨lA,ln,lc,rfl⟩:=hh.layers.form;exact ⟨pA,pn,pc,dA,dn,dc,lA,ln,lc,by simp [hg],hh⟩
def Qb (fv:ah) (acc rej:Int->Bool) (n:Nat):Prop:=∀ (G:GH) (w0:World),Hold G w0->EY fv G acc rej->∀ (l:List ak) (v:ah),av G (.sl 11 (l.map ak.dat)) v->bq l < n ->
 Calls prog 98 #[fv,v] w0 (bE w0 G fun u G'=>av G' (.sl 11 ((bZ acc rej l).map ak.dat)) u)
theorem acy {p:Prop} (h:p:=by
 exact ⟨O,by rw [TF hk2,hone,fG];exact hrw,by rw [TF hk2,hone,fG];exact fu.mono sU,fun b o h=>sU b o (hgm b o h)⟩):p:=h
theorem anW {p:Prop} (h:p:=by
 exact Ac HT Hb hG hv (wD aP) H M):p:=h
theorem Kl {p:Prop} (h:p:=by
 clear H;intro a H;refine aD ⟨M,?_⟩;exact anW):p:=h
theorem VP {p:Prop} (h:p:=by
 (iterate 12 (rcases i with _|i;(first|exact h|exact absurd hi Z|exact absurd hc Z)));exact trivial):p:=h
theorem adi {p:Prop} (h:p:=by
 intro aP dU aW a w G1 fE _ _ aK hc hG HT hv;have H:=HT;clear aK;have Hb:=H.full;have H:=Hb;clear hc;refine kH H (Rm M ?_);exact Kl):p:=h
set_option maxHeartbeats 4000000 in
theorem aBv {fv:ah} {n:Nat} (ih:Qb fv acc rej n) (hn:n<=536870913) (G:GH) (w0:World) (hG:Hold G w0) (hf:EY fv G acc rej) (l:List aO) (v:ah) (hv:av G (.sl 6 (l.map aO.dat)) v) (hz:fQ l < n) :
  Calls prog 165 #[fv,v] w0 (bE w0 G fun u G'=>av G' (.sl 6 ((fZ acc rej l).map aO.dat)) u):=by
 obtain ⟨A,c,rfl,hc1,hc2,hg⟩:=hv.slice
 have hml:4294967297<=maxLen:=by decide
 have hll:=JH l;rw [bK] at *;refine eN [(0,_),(1,_)] func165 M ntmps165 M M hG ?_;intro a H;refine kP H (SR fun _ K1=>aj K1 M (SR fun _ K2=>aj K2 M (SQ fun _ K3=>SR fun _ K4=>Rm M (Rl mR M (Rm M (Kz K4 (SB ?_)))))));clear H K1 K2 K4;intro a H;skip;refine fD (ι:=Nat × ah × List ah × OL × GH) (Tc:=[(0,_),(15,_),(16,_)]) (Lc:=[]) (fun gh=>[(5,gh.2.1),(17,vi gh.1)]) (fun gh=>[]++gh.2.2.2.1) (fun gh=>gh.2.2.2.2) (fun gh=>gh.1<=l.length∧bY 74 6 gh.2.1 (fZ acc rej (l.take gh.1)).length gh.2.2.1 gh.2.2.2.1∧dx gh.2.2.2.2 6 ((fZ acc rej (l.take gh.1)).map aO.dat) gh.2.2.1∧(∀ b o,G b=some o->gh.2.2.2.2 b=some o)) (fun gh=>l.length - gh.1) ((0,.slice none 0 0,[],[],G)) (by exact H.sub ⟨M,M,M,M,M,aC⟩) ?_ ?_
 ·exact Kh
 clear H;rintro ⟨k,v,xs,Lo,g⟩ a w hI H;dsimp only at hI H;obtain ⟨hk,hrw,fu,hgm⟩:=hI;have hrl:=aaj (acc:=acc) (rej:=rej) (l.take k);rw [List.length_take] at hrl;dsimp only [lca,bM] at H;refine kP H (SR fun _ K5=>Rc M (Kz K5 (SQ fun _ K6=>Cd M ?_ ?_))) <;> clear H K5
 ·intro h18 a H
  try have BH:=dT h18
  have hk2:k < l.length:=by omega
  obtain ⟨b_,o_,pA,pn,pc,dA,dn,dc,yA,yn,yc,cA,cn,cc,rfl,hrow,hhd,hcl⟩:=OW hk2 hg;replace hrow:=fun j u hj=>aG hgm (hrow j u hj);replace hhd:=hhd.mono hgm;replace hcl:=hcl.mono hgm;have hzr:=Ul hk2;have hce:=aah (acc:=acc) (rej:=rej) l[k];refine kP H (Kc K6 (SQ fun _ K7=>SB (SR fun _ K8=>Ri mR jO M M ?_)));clear H K6;intro a H;refine bQ jO (cs:=[_,_,_,_,_,_]) H wn M M (fun j v hj=>H.hp.aI (hrow j v hj)) M ?_;clear H;intro a H;refine dW jO H wn M ?_;clear H;intro b7 a w CB H;refine bJ jO 0 (vs:=[_,_,_,_,_,_]) H wn M ?_;clear H;intro w H;refine K8 _ _ ?_;clear K8;refine kP H (SR fun _ K9=>Rm M (Rf KN M ?_));clear H;intro a H;refine bQ gB (cs:=[_,_,_,_,_]) H wn M M (H.hp.dG 0 M M) M ?_;clear H;intro a H;refine lI H wn M M (hf _ _ hgm H.ro l[k].head _ _ _ hhd O) M ?_;clear H;rintro v25 PL a w hd25 El H;obtain ⟨q1,q2,q3,q4,q5,q6,q7,q8,q9,rfl,awn⟩:=hd25.ans;refine kH H (Rm M ?_);clear H;intro a H;(iterate 2 refine lJ H wn M M M ?_;clear H;intro a H);refine dW gB H wn M ?_;clear H;intro b8 a w RN H;refine bJ gB 0 (vs:=[_,_,_,_,_]) H wn M ?_;clear H;intro w H;refine kH H (aj K9 M (SQ fun _ aT=>SR fun _ bR=>Rm M (Rn M (Kz bR (Cd M ?_ ?_))))) <;> clear H K9 bR
  ·intro iE a H
   try have p29:=dT iE
   have hone:nS acc rej l[k]=[]:=by rw [hce,ay (by simpa using iE)]
   have sU:=El;refine dY ?_;refine K7 _ _ ?_;clear K7;refine kP H (SC (Rd M (Rm M ?_)));clear H;intro a H;refine aD ?_;refine dQ ((k+1,v,xs,Lo,_)) (by exact (H.eD (Pl:=[_,_]) (dK:=[]) [] Z M).sub ⟨M,M,M,M,M,aC⟩) ?_
   (try dsimp only);exact acy
  intro iE a H
  try have p29:=dF iE
  have IL:¬ lS acc rej l[k].head:=by simpa using iE
  rw [au IL] at hce;obtain ⟨cA',cc',hcs,Yc,avN,hgc⟩:=hcl.slice
  injection hcs with e1 e2 e3
  rw [bK] at e2 Yc;subst e1 e2 e3;have avQ:=JG l[k].cells;refine kP H (Kc aT (SR fun _ cu=>aj cu M (SQ fun _ dw=>SR fun _ dB=>bC wm wL 1 M M (Rl oK M (Rm M (Kz dB (SB ?_)))))));clear H aT cu dB;intro a H;skip;refine fD (ι:=Nat × ah × List ah × OL × GH) (Tc:=[(0,_),(5,_),(8,_),(15,_),(16,_),(17,_),(31,_),(32,_)]) (Lc:=[(_,_),(_,_)]) (fun gh=>[(10,gh.2.1),(33,vi gh.1)]) (fun gh=>[]++(Lo++gh.2.2.2.1)) (fun gh=>gh.2.2.2.2) (fun gh=>gh.1<=l[k].cells.length∧bY 76 7 gh.2.1 (fK acc rej (l[k].cells.take gh.1)).length gh.2.2.1 gh.2.2.2.1∧dx gh.2.2.2.2 7 ((fK acc rej (l[k].cells.take gh.1)).map aQ.dat) gh.2.2.1∧(∀ b o,PL b=some o->gh.2.2.2.2 b=some o)) (fun gh=>l[k].cells.length - gh.1) ((0,.slice none 0 0,[],[],PL)) (by exact (H.Jm (A:=[_,_])).sub ⟨M,M,M,M,M,M,M,M,M,M,aC⟩) ?_ ?_
  ·exact Kh
  clear H;rintro ⟨i,v2,xs2,Lc,g2⟩ a w hI H;dsimp only at hI H;obtain ⟨hi,hrw2,Ah,jW⟩:=hI;have hrl2:=aaf (acc:=acc) (rej:=rej) (l[k].cells.take i);rw [List.length_take] at hrl2;obtain ⟨Pq,Pv,rfl,-,-⟩:=hrw2.shape;dsimp only [lca,bM] at H;refine kP H (SR fun _ dX=>Rc M (Kz dX (SQ fun _ eu=>Cd M ?_ ?_))) <;> clear H dX
  ·intro gN a H
   try have p34:=dT gN
   have hi2:i < l[k].cells.length:=by omega
   obtain ⟨U6,o2_,aA,an,ac,gA,gn,gc,uA,un,uc,wA,wn_,wc,rfl,hrow2,Ym,Yi⟩:=Ky hi2 hgc;have hgx:∀ b o,g b=some o->g2 b=some o:=fun b o h=>jW b o (El b o h);replace hrow2:=fun j u hj=>aG hgx (hrow2 j u hj);replace Ym:=Ym.mono hgx;replace Yi:=Yi.mono hgx;have hzc:=Uj hi2;have ahx:=aad (acc:=acc) (rej:=rej) l[k].cells[i];refine kP H (Kc eu (SQ fun _ dN=>SB (SR fun _ eO=>Ri oK kL M M ?_)));clear H eu;intro a H;refine bQ kL (cs:=[_,_,_,_,_,_,_]) H wn M M (fun j v hj=>H.hp.aI (hrow2 j v hj)) M ?_;clear H;intro a H;refine dW kL H wn M ?_;clear H;intro b12 a w IC H;refine bJ kL 0 (vs:=[_,_,_,_,_,_,_]) H wn M ?_;clear H;intro w H;refine eO _ _ ?_;clear eO;refine kP H (SR fun _ gD=>Rm M (Rf Ii M ?_));clear H;intro a H;refine bQ gB (cs:=[_,_,_,_,_]) H wn M M (H.hp.dG 0 M M) M ?_;clear H;intro a H;refine lI H wn M M (hf _ _ (fun b o h=>hgx b o (hgm b o h)) H.ro l[k].cells[i].head _ _ _ Ym O) M ?_;clear H;rintro v41 JO a w avU xg H;obtain ⟨r1,r2,r3,r4,r5,r6,r7,r8,r9,rfl,awo⟩:=avU.ans;refine kH H (Rm M ?_);clear H;intro a H;(iterate 2 refine lJ H wn M M M ?_;clear H;intro a H);refine dW gB H wn M ?_;clear H;intro b13 a w RJ H;refine bJ gB 0 (vs:=[_,_,_,_,_]) H wn M ?_;clear H;intro w H;refine kH H (aj gD M (SR fun _ fF=>Rm M (Kz fF (Cd M ?_ ?_)))) <;> clear H gD fF
   ·intro D6 a H
    try have p44:=dT D6
    have ahY:¬ lS acc rej l[k].cells[i].head:=by simpa using D6
    have Oj:oz acc rej l[k].cells[i]=[.mk l[k].cells[i].id (eU acc rej l[k].cells[i].head) (bZ acc rej l[k].cells[i].flow)]:=by rw [ahx,au ahY,eU,au ahY]
    have wD:P8 (fun (aP:Nat->ah × OL) (bV:Nat) (v:ah) (G:GH)=>match bV with|0=>v=.slice Pq (fK acc rej (l[k].cells.take i)).length Pv|1=>v=(aH b12 0)|2=>v=vi l[k].cells[i].id|3=>v=.agg #[.slice r1 r2 r3,vi (eU acc rej l[k].cells[i].head).marks.ins,vi (eU acc rej l[k].cells[i].head).marks.move,.slice r4 r5 r6,.slice r7 r8 r9]|4=>v=fv|5=>v=(aH b12 6)|6=>v=.slice wA wn_ wc|7=>av G (.sl 11 ((bZ acc rej l[k].cells[i].flow).map ak.dat)) v|8=>∃ A n c,v=.agg #[vi l[k].cells[i].id,.slice r1 r2 r3,vi (eU acc rej l[k].cells[i].head).marks.ins,vi (eU acc rej l[k].cells[i].head).marks.move,.slice r4 r5 r6,.slice r7 r8 r9,.slice A n c]∧av G (.sl 11 ((bZ acc rej l[k].cells[i].flow).map ak.dat)) (.slice A n c)|9=>∃ b A n c,v=.slice (some ⟨b,0,none⟩) 1 1∧aP 9=(.slice (some ⟨b,0,none⟩) 1 1,[(b,.cells #[vi l[k].cells[i].id,.slice r1 r2 r3,vi (eU acc rej l[k].cells[i].head).marks.ins,vi (eU acc rej l[k].cells[i].head).marks.move,.slice r4 r5 r6,.slice r7 r8 r9,.slice A n c] 76 (0,0))])∧av G (.sl 11 ((bZ acc rej l[k].cells[i].flow).map ak.dat)) (.slice A n c)|_=>True):=by intro aP bV v G G' hm h;(iterate 12 (rcases bV with _|bV;(first|exact h|exact av.mono hm h|exact let ⟨A,n,c,h1,h2⟩:=h;⟨A,n,c,h1,h2.mono hm⟩|exact let ⟨b,A,n,c,h0,h1,h2⟩:=h;⟨b,A,n,c,h0,h1,h2.mono hm⟩)));exact trivial
    refine V7 [9] (hmx) [[],[],[1],[],[],[],[5],[4,5,6],ra 1 7,ra 1 8,ra 0 10,ra 0 11] [10,11] V V Z V (fun (aP:Nat->ah × OL) (bV:Nat) (v:ah) (G:GH)=>match bV with|0=>v=.slice Pq (fK acc rej (l[k].cells.take i)).length Pv|1=>v=(aH b12 0)|2=>v=vi l[k].cells[i].id|3=>v=.agg #[.slice r1 r2 r3,vi (eU acc rej l[k].cells[i].head).marks.ins,vi (eU acc rej l[k].cells[i].head).marks.move,.slice r4 r5 r6,.slice r7 r8 r9]|4=>v=fv|5=>v=(aH b12 6)|6=>v=.slice wA wn_ wc|7=>av G (.sl 11 ((bZ acc rej l[k].cells[i].flow).map ak.dat)) v|8=>∃ A n c,v=.agg #[vi l[k].cells[i].id,.slice r1 r2 r3,vi (eU acc rej l[k].cells[i].head).marks.ins,vi (eU acc rej l[k].cells[i].head).marks.move,.slice r4 r5 r6,.slice r7 r8 r9,.slice A n c]∧av G (.sl 11 ((bZ acc rej l[k].cells[i].flow).map ak.dat)) (.slice A n c)|9=>∃ b A n c,v=.slice (some ⟨b,0,none⟩) 1 1∧aP 9=(.slice (some ⟨b,0,none⟩) 1 1,[(b,.cells #[vi l[k].cells[i].id,.slice r1 r2 r3,vi (eU acc rej l[k].cells[i].head).marks.ins,vi (eU acc rej l[k].cells[i].head).marks.move,.slice r4 r5 r6,.slice r7 r8 r9,.slice A n c] 76 (0,0))])∧av G (.sl 11 ((bZ acc rej l[k].cells[i].flow).map ak.dat)) (.slice A n c)|_=>True) (fun m hm x y i v G hi hc h=>by
     have hm:m=9:=by simpa using hm
     rcases hm with rfl
     ·exact VP
     ) H ?_ ?_ ?_
    ·clear H;refine aB ?_ ?_ ?_ ?_ (aB ?_ ?_ ?_ ?_ (aB ?_ ?_ ?_ ?_ dz))
     ·exact adi
     ·intro aP dU aW a w G1 fE _ _ aK hc hG HT hv;have H:=HT;clear aK;have Hb:=H.full;have H:=Hb;clear hc;refine kH H (Rf NK M ?_);exact Kl
     ·intro aP dU aW a w G1 fE _ _ aK hc hG HT hv;have H:=HT;clear aK;have H:=H.aM (hv 1 46 (hc 1 Z) M) M;have Hb:=H.full;have H:=Hb;clear hc;refine sF aF H wn M (H.hp.BF (fE _ (gI _ dV)) M) M ?_;exact Kl
     ·intro aP dU aW a w G1 fE _ _ aK hc hG HT hv;have H:=HT;clear aK;have Hb:=H.full;have H:=Hb;clear hc;refine bQ gB (cs:=[.slice r1 r2 r3,vi (eU acc rej l[k].cells[i].head).marks.ins,vi (eU acc rej l[k].cells[i].head).marks.move,.slice r4 r5 r6,.slice r7 r8 r9]) H wn M M (fun j v hj=>H.hp.BF (fE _ dV) (by simpa using hj)) M ?_;exact Kl
     ·exact adi
     ·intro aP dU aW a w G1 fE _ _ aK hc hG HT hv;have H:=HT;clear aK;have Hb:=H.full;have H:=Hb;clear hc;refine kH H (Rf Ij M ?_);exact Kl
     ·intro aP dU aW a w G1 fE _ _ aK hc hG HT hv;have H:=HT;clear aK;have H:=H.aM (hv 5 50 (hc 5 Z) M) M;have Hb:=H.full;have H:=Hb;clear hc;refine sF jy H wn M (H.hp.BF (fE _ (gI _ dV)) M) M ?_;exact Kl
     ·intro aP dU aW a w G1 fE _ _ aK hc hG HT hv;have H:=HT;clear aK;have H:=H.aM (hv 4 49 (hc 4 Z) M) M;have H:=H.aM (hv 6 51 (hc 6 Z) M) M;have Hb:=H.full;have H:=Hb;clear hc;refine s_call W9 H wn M (ih _ _ H.ro (hf.mono fun b o h=>hG b o (xg b o (hgx b o (hgm b o h)))) l[k].cells[i].flow _ (Yi.mono fun b o h=>hG b o (xg b o h)) O) M ?_;clear H;rintro v52 G52 a w IU auO H;refine aD ⟨M,?_⟩;exact oV V (wD aP) M M HT Hb hG hv auO (IU) H
     ·intro aP dU aW a w G1 fE _ _ aK hc hG HT hv;have H:=HT;clear aK;have H:=H.aM (hv 2 47 (hc 2 Z) M) M;have H:=H.aM (hv 3 48 (hc 3 Z) M) M;obtain ⟨u52,axV,IU⟩:=hv 7 52 (hc 7 Z) M;(try dsimp only at IU);obtain ⟨JK,n52,Kt,rfl⟩:=IU.form;have H:=H.gU axV;have Hb:=H.full;have H:=Hb;clear hc;refine jM aaB [_,_,_,_,_,_,_] H wn M M M M ?_;clear H;intro a H;refine aD ⟨M,?_⟩;exact oV V (wD aP) M M HT Hb hG hv (fun _ _ h=>h) (⟨_,_,_,M,IU⟩) H
     ·exact zW
     ·exact HY
     exact Kk
    ·clear H;refine aB ?_ ?_ ?_ ?_ (aB ?_ ?_ ?_ ?_ (aB ?_ ?_ ?_ ?_ dz))
     ·intro hB;exact gV
     ·intro hB;exact gV
     ·intro hB;exact gV
     ·intro hB;exact gV
     ·intro hB;exact gV
     ·intro hB;exact gV
     ·intro hB;exact gV
     ·intro hB;exact gV
     ·intro hB;exact gV
     ·intro _ aP dU aW a w G1 fE _ hc hG HT hv;have H:=HT;obtain ⟨u53,YV,CQ⟩:=hv (.bool false,[]) 8 53 Z (hc 8 Z) M;(try dsimp only at CQ);obtain ⟨Az,n53,c53,rfl,CQ⟩:=CQ;have H:=H.gU YV;have Hb:=H.full;have H:=Hb;clear hc;refine iV oK kL [_,_,_,_,_,_,_] [_,_,_,_,_,_,_] H wn M M M M M (by intro i q h;match i,h with|0,h=>exact h|n+1,h=>simp at h) M M ?_;clear H;intro Cn a w ahw H;refine aD ⟨M,(.slice (some ⟨Cn,0,none⟩) 1 1,[(Cn,.cells #[vi l[k].cells[i].id,.slice r1 r2 r3,vi (eU acc rej l[k].cells[i].head).marks.ins,vi (eU acc rej l[k].cells[i].head).marks.move,.slice r4 r5 r6,.slice r7 r8 r9,.slice Az n53 c53] 76 (0,0))]),?_⟩;exact Bc V (wD (oL aP 9 (.slice (some ⟨Cn,0,none⟩) 1 1,[(Cn,.cells #[vi l[k].cells[i].id,.slice r1 r2 r3,vi (eU acc rej l[k].cells[i].head).marks.ins,vi (eU acc rej l[k].cells[i].head).marks.move,.slice r4 r5 r6,.slice r7 r8 r9,.slice Az n53 c53] 76 (0,0))]))) M HT Hb hG (fun j e h1 h2 h3=>hv (.slice (some ⟨Cn,0,none⟩) 1 1,[(Cn,.cells #[vi l[k].cells[i].id,.slice r1 r2 r3,vi (eU acc rej l[k].cells[i].head).marks.ins,vi (eU acc rej l[k].cells[i].head).marks.move,.slice r4 r5 r6,.slice r7 r8 r9,.slice Az n53 c53] 76 (0,0))]) j e h1 h2 h3) (fun _ _ h=>h) (⟨Cn,Az,n53,c53,M,M,CQ⟩) H
     ·intro hB;exact gV
     intro hB;exact gV
    clear H;intro aP a w G Ea H hv
    simp only [jk,List.flatMap_cons,List.flatMap_nil,cond_true,fG,iL] at H
    have H:=H.aM (hv 0 45 M M) M;obtain ⟨u54,axW,aii⟩:=hv 9 54 Z M;(try dsimp only at aii);obtain ⟨Cn,JK,n52,Kt,rfl,e54,IU⟩:=aii;have H:=H.gU axW;clear hv;rw [e54] at H;dsimp only [lca,bM] at H;have aiw:aX G (aQ.dat (.mk l[k].cells[i].id (eU acc rej l[k].cells[i].head) (bZ acc rej l[k].cells[i].flow))) [vi l[k].cells[i].id,.slice r1 r2 r3,vi (eU acc rej l[k].cells[i].head).marks.ins,vi (eU acc rej l[k].cells[i].head).marks.move,.slice r4 r5 r6,.slice r7 r8 r9,.slice JK n52 Kt]:=aX.SG (x:=.mk l[k].cells[i].id (eU acc rej l[k].cells[i].head) (bZ acc rej l[k].cells[i].flow)) (awo.mono Ea) IU;refine ny (Li:=[_,_,_,_,_]++Lo) (Lo:=Lc) (news:=[vi l[k].cells[i].id,.slice r1 r2 r3,vi (eU acc rej l[k].cells[i].head).marks.ins,vi (eU acc rej l[k].cells[i].head).marks.move,.slice r4 r5 r6,.slice r7 r8 r9,.slice JK n52 Kt]) oK kL M M (St.un (A:=[_,_,_,_,_]) H) wn M M hrw2 M (H.hp.dG 0 M M) aiw.one O O M ?_;clear H;intro v55 amR a w axw H;have H:=H.assoc;dsimp only [lca,bM] at H;refine kH H (Ra M ?_);clear H;intro a H;refine aD ⟨M,?_⟩;refine dN _ _ ?_;clear dN;refine kP H (SC (Rd M (Rm M ?_)));clear H;intro a H;refine aD ?_;refine dQ ((i+1,v55,xs2++[vi l[k].cells[i].id,.slice r1 r2 r3,vi (eU acc rej l[k].cells[i].head).marks.ins,vi (eU acc rej l[k].cells[i].head).marks.move,.slice r4 r5 r6,.slice r7 r8 r9,.slice JK n52 Kt],amR,_)) (by exact (H.eD (Pl:=[_,_,_,_,_]) (dK:=[_,_]) [3,4] Z M).sub ⟨M,M,M,M,M,M,M,M,M,M,aC⟩) ?_
    (try dsimp only);exact ⟨O,by rw [TA hi2,Oj,gF];exact axw,by rw [TA hi2,Oj,ji];exact (Ah.mono fun b o h=>Ea b o (xg b o h)).snoc aiw M,fun b o h=>Ea b o (xg b o (jW b o h))⟩
   intro D6 a H
   try have p44:=dF D6
   have Oj:oz acc rej l[k].cells[i]=[]:=by rw [ahx,ay (by simpa using D6)]
   refine kP H (Kc dN (SC (Rd M (Rm M ?_))));clear H dN;intro a H;refine aD ?_;refine dQ ((i+1,_,xs2,Lc,_)) (by exact (H.eD (Pl:=[_,_,_,_]) (dK:=[_,_]) [2,3] Z M).sub ⟨M,M,M,M,M,M,M,M,M,M,aC⟩) ?_
   (try dsimp only);exact ⟨O,by rw [TA hi2,Oj,fG];exact hrw2,by rw [TA hi2,Oj,fG];exact Ah.mono xg,fun b o h=>xg b o (jW b o h)⟩
  intro gN a H
  try have p34:=dF gN
  obtain rfl:i=l[k].cells.length:=by omega
  rw [uV] at hrw2 Ah hrl2 H;have H:=H.un (A:=[_,_]);obtain ⟨Gr,hmr,hrep,H⟩:=St.qh (Li:=[_,_]++Lo) H hrw2 (rows:=(fK acc rej l[k].cells).map aQ.dat) (by simp) Ah;have sU:∀ b o,g b=some o->Gr b=some o:=fun b o h=>hmr b o (jW b o (El b o h));dsimp only [lca,bM] at H;refine dY ?_;refine dw _ _ ?_;clear dw;refine kP H (SR fun _ gK=>Rm M (Rl oK M (Rc M (Kz gK (Cd M ?_ ?_))))) <;> clear H gK
  ·intro jv a H
   try have p59:=dT jv
   have hone:nS acc rej l[k]=[.mk (eU acc rej l[k].head) (fK acc rej l[k].cells)]:=by rw [hce,bU,eU,au IL]
   have aix:aX Gr (aO.dat (.mk (eU acc rej l[k].head) (fK acc rej l[k].cells))) [.slice q1 q2 q3,vi (eU acc rej l[k].head).marks.ins,vi (eU acc rej l[k].head).marks.move,.slice q4 q5 q6,.slice q7 q8 q9,.slice Pq (fK acc rej l[k].cells).length Pv]:=aX.SH (x:=.mk (eU acc rej l[k].head) (fK acc rej l[k].cells)) (awn.mono fun b o h=>hmr b o (jW b o h)) hrep;refine kP H (SC (Rm M ?_));clear H;intro a H;refine bQ gB (cs:=[_,_,_,_,_]) H wn M M (H.hp.dG 0 M M) M ?_;clear H;intro a H;refine kH H (Rm M ?_);clear H;intro a H;refine jM aaA [_,_,_,_,_,_] H wn M M M M ?_;clear H;intro a H;refine iV mR jO [_,_,_,_,_,_] [_,_,_,_,_,_] H wn M M M M M (by intro i q h;match i,h with|0,h=>exact h|n+1,h=>simp at h) M M ?_;clear H;intro b64 a w aEX H;refine ny (Li:=[_,_,_]) (Lo:=Lo) (news:=[.slice q1 q2 q3,vi (eU acc rej l[k].head).marks.ins,vi (eU acc rej l[k].head).marks.move,.slice q4 q5 q6,.slice q7 q8 q9,.slice Pq (fK acc rej l[k].cells).length Pv]) mR jO M M H wn M M hrw M (H.hp.dG 0 M M) aix.one O O M ?_;clear H;intro v65 amY a w axx H;refine kH H (bF K7 M (SC (Rd M (Rm M ?_))));clear H K7;intro a H;refine aD ?_;refine dQ ((k+1,v65,xs++[.slice q1 q2 q3,vi (eU acc rej l[k].head).marks.ins,vi (eU acc rej l[k].head).marks.move,.slice q4 q5 q6,.slice q7 q8 q9,.slice Pq (fK acc rej l[k].cells).length Pv],amY,_)) (by exact (H.eD (Pl:=[_,_,_]) (dK:=[]) [] Z M).sub ⟨M,M,M,M,M,aC⟩) ?_
   (try dsimp only);exact ⟨O,by rw [TF hk2,hone,gF];exact axx,by rw [TF hk2,hone,ji];exact (fu.mono sU).snoc aix M,fun b o h=>sU b o (hgm b o h)⟩
  intro jv a H
  try have p59:=dF jv
  have hone:nS acc rej l[k]=[]:=by rw [hce,jl]
  refine kP H (Kc K7 (SC (Rd M (Rm M ?_))));clear H K7;intro a H;refine aD ?_;refine dQ ((k+1,v,xs,Lo,_)) (by exact (H.eD (Pl:=[_,_]) (dK:=[]) [] Z M).sub ⟨M,M,M,M,M,aC⟩) ?_
  (try dsimp only);exact acy
 intro h18 a H
 try have BH:=dF h18
 obtain rfl:k=l.length:=by omega
 rw [uV] at hrw fu;refine dY ?_;refine K3 _ _ ?_;clear K3;refine kP H (SR fun _ jg=>Rm M (aj jg M ?_));clear H jg;intro a H;refine eP ?_;obtain ⟨G',hm,IZ,H⟩:=H.qh (Li:=[]) hrw (rows:=(fZ acc rej l).map aO.dat) (by simp) fu;refine lv H results165 M ?_;exact H.rt IZ
set_option maxHeartbeats 4000000 in
theorem aBs {fv:ah} {n:Nat} (ih:Qb fv acc rej n) (hn:n<=536870912):Qb fv acc rej (n+1):=by
 intro G w0 hG hf l v hv hz;obtain ⟨A,c,rfl,hc1,hc2,hg⟩:=hv.slice
 have hml:4294967297<=maxLen:=by decide
 have hll:=Dw l;rw [bK] at *;refine eN [(0,_),(1,_)] func98 M ntmps98 M M hG ?_;intro a H;refine kP H (SR fun _ K1=>aj K1 M (SR fun _ K2=>aj K2 M (SQ fun _ K3=>SR fun _ K4=>Rm M (Rl iB M (Rm M (Kz K4 (SB ?_)))))));clear H K1 K2 K4;intro a H;skip;refine fD (ι:=Nat × ah × List ah × OL × GH) (Tc:=[(0,_),(10,_),(11,_)]) (Lc:=[]) (fun gh=>[(5,gh.2.1),(12,vi gh.1)]) (fun gh=>[]++gh.2.2.2.1) (fun gh=>gh.2.2.2.2) (fun gh=>gh.1<=l.length∧bY 68 11 gh.2.1 (bZ acc rej (l.take gh.1)).length gh.2.2.1 gh.2.2.2.1∧dx gh.2.2.2.2 11 ((bZ acc rej (l.take gh.1)).map ak.dat) gh.2.2.1∧(∀ b o,G b=some o->gh.2.2.2.2 b=some o)) (fun gh=>l.length - gh.1) ((0,.slice none 0 0,[],[],G)) (by exact H.sub ⟨M,M,M,M,M,aC⟩) ?_ ?_
 ·exact Kh
 clear H;rintro ⟨k,v,xs,Lo,g⟩ a w hI H;dsimp only at hI H;obtain ⟨hk,hrw,fu,hgm⟩:=hI;have hrl:=akD (acc:=acc) (rej:=rej) (l.take k);rw [List.length_take] at hrl;dsimp only [lca,bM] at H;refine kP H (SR fun _ K5=>Rc M (Kz K5 (SQ fun _ K6=>Cd M ?_ ?_))) <;> clear H K5
 ·intro ig a H
  try have sZ:=dT ig
  have hk2:k < l.length:=by omega
  obtain ⟨b_,o_,pA,pn,pc,dA,dn,dc,yA,yn,yc,fA,fn,fc,rA,rn,rc,rfl,hrow,hhd,hfl,hrs⟩:=DV hk2 hg;replace hrow:=fun j u hj=>aG hgm (hrow j u hj);replace hhd:=hhd.mono hgm;replace hfl:=hfl.mono hgm;replace hrs:=hrs.mono hgm;have hzi:=Uk hk2;have hce:=OX (acc:=acc) (rej:=rej) l[k];refine kP H (Kc K6 (SQ fun _ K7=>SB (SR fun _ K8=>Ri iB eZ M M ?_)));clear H K6;intro a H;refine bQ eZ (cs:=[_,_,_,_,_,_,_,_,_,_,_]) H wn M M (fun j v hj=>H.hp.aI (hrow j v hj)) M ?_;clear H;intro a H;refine dW eZ H wn M ?_;clear H;intro b7 a w CB H;refine bJ eZ 0 (vs:=[_,_,_,_,_,_,_,_,_,_,_]) H wn M ?_;clear H;intro w H;refine K8 _ _ ?_;clear K8;refine kP H (SR fun _ K9=>Rm M (Rf wU M ?_));clear H;intro a H;refine bQ gB (cs:=[_,_,_,_,_]) H wn M M (H.hp.dG 0 M M) M ?_;clear H;intro a H;refine lI H wn M M (hf _ _ hgm H.ro l[k].head _ _ _ hhd O) M ?_;clear H;rintro v20 GR a w avT rY H;obtain ⟨q1,q2,q3,q4,q5,q6,q7,q8,q9,rfl,Yl⟩:=avT.ans;refine kH H (Rm M ?_);clear H;intro a H;(iterate 2 refine lJ H wn M M M ?_;clear H;intro a H);refine dW gB H wn M ?_;clear H;intro b8 a w RN H;refine bJ gB 0 (vs:=[_,_,_,_,_]) H wn M ?_;clear H;intro w H;refine kH H (aj K9 M (SQ fun _ aT=>SR fun _ bR=>Rm M (Rn M (Kz bR (Cd M ?_ ?_))))) <;> clear H K9 bR
  ·intro fV a H
   try have pJ:=dT fV
   have hone:mK acc rej l[k]=[]:=by rw [hce,ay (by simpa using fV)]
   refine dY ?_;refine K7 _ _ ?_;clear K7;refine kP H (SC (Rd M (Rm M ?_)));clear H;intro a H;refine aD ?_;refine dQ ((k+1,v,xs,Lo,_)) (by exact (H.eD (Pl:=[_,_]) (dK:=[]) [] Z M).sub ⟨M,M,M,M,M,aC⟩) ?_
   (try dsimp only);exact ⟨O,by rw [Mq hk2,hone,fG];exact hrw,by rw [Mq hk2,hone,fG];exact fu.mono rY,fun b o h=>rY b o (hgm b o h)⟩
  intro fV a H
  try have pJ:=dF fV
  have IL:¬ lS acc rej l[k].head:=by simpa using fV
  rw [au IL] at hce;have han:eU acc rej l[k].head=gL acc rej l[k].head:=au IL;refine iD ?_;refine aT _ _ ?_;clear aT;refine cZ (fun _ cu=>?_);refine bQ gB (cs:=[_,_,_,_,_]) H wn M M (H.hp.dG 0 M M) M ?_;clear H;intro a H;refine kH H (Rf wU M ?_);clear H;intro a H;refine bJ gB 1 (vs:=[_,_,_,_,_]) H wn M ?_;clear H;intro w H;refine cu _ _ ?_;clear cu;refine uo (ι:=ak × List ah × GH) (Tc:=[(0,_),(5,_),(7,_),(10,_),(11,_),(12,_)]) (Lc:=[(_,_)]) (fun gh=>[]) (fun gh=>[(b7,.cells gh.2.1.toArray 68 (0,0))]++Lo) (fun gh=>gh.2.2) (fun gh=>mK acc rej l[k]=[gh.1]∧aX gh.2.2 gh.1.dat gh.2.1∧(∀ b o,GR b=some o->gh.2.2 b=some o)) (by exact H.sub ⟨M,M,M,M,M,M,aC⟩) ?_ ?_
  ·skip;refine kP H (SR fun _ dw=>bC kF aF 1 M M (Kz dw (SB (SR fun _ dB=>Rc M (aj dB M (Cd M ?_ ?_)))))) <;> clear H dw dB
   ·intro iE a H
    try have p29:=dT iE
    refine kP H (SC (Rm M (bC Af jy 1 M M ?_)));clear H;intro a H;refine s_call W9 H wn M (ih _ _ H.ro (hf.mono fun b o h=>rY b o (hgm b o h)) l[k].flow _ (hfl.mono rY) O) M ?_;clear H;rintro v34 PN a w FQ Lb H;obtain ⟨EJ,n34,c34,rfl⟩:=FQ.form;refine kH H (Rf Af M ?_);clear H;intro a H;refine bJ jy 1 (vs:=[_]) H wn M ?_;clear H;intro w H;refine aD ?_;refine ⟨(.mk l[k].kind l[k].code l[k].id l[k].text (eU acc rej l[k].head) (bZ acc rej l[k].flow) l[k].rows,[vi l[k].kind,vi l[k].code,vi l[k].id,.string l[k].text,.slice q1 q2 q3,vi (eU acc rej l[k].head).marks.ins,vi (eU acc rej l[k].head).marks.move,.slice q4 q5 q6,.slice q7 q8 q9,.slice EJ n34 c34,.slice rA rn rc],PN),by exact H.sub ⟨M,M,M,M,M,M,aC⟩,?_⟩;(try dsimp only);exact ⟨by rw [hce,ay p29,han],aX.mkItem (x:=.mk l[k].kind l[k].code l[k].id l[k].text (eU acc rej l[k].head) (bZ acc rej l[k].flow) l[k].rows) (Yl.mono Lb) FQ (hrs.mono fun b o h=>Lb b o (rY b o h)),Lb⟩
   intro iE a H
   try have p29:=dF iE
   refine kP H (SR fun _ dX=>Rc M (aj dX M (Cd M ?_ ?_))) <;> clear H dX
   ·intro wY a H
    try have p36:=dT wY
    refine kP H (SR fun _ eu=>Rm M (bC qd qw 1 M M ?_));clear H;intro a H;refine s_call arf H wn M (aBv ih O _ _ H.ro (hf.mono fun b o h=>rY b o (hgm b o h)) l[k].rows _ (hrs.mono rY) O) M ?_;clear H;rintro v41 JO a w YA xg H;obtain ⟨A41,n41,c41,rfl⟩:=YA.form;have ahW:=YA.len;rw [bK] at ahW;subst ahW;refine kH H (Rf qd M ?_);clear H;intro a H;refine bJ qw 1 (vs:=[_]) H wn M ?_;clear H;intro w H;refine eu _ _ ?_;clear eu;refine kP H (SR fun _ dN=>bC qd qw 1 M M (Rl mR M (Rc M (Kz dN (Cd M ?_ ?_))))) <;> clear H dN
    ·intro h46 a H
     try have p46:=dT h46
     have hone:mK acc rej l[k]=[]:=by rw [hce,au p29,ay p36,jl]
     refine dY ?_;refine K7 _ _ ?_;clear K7;refine kP H (SC (Rd M (Rm M ?_)));clear H;intro a H;refine aD ?_;refine dQ ((k+1,v,xs,Lo,_)) (by exact (H.eD (Pl:=[_,_]) (dK:=[]) [] Z M).sub ⟨M,M,M,M,M,aC⟩) ?_
     (try dsimp only);exact ⟨O,by rw [Mq hk2,hone,fG];exact hrw,by rw [Mq hk2,hone,fG];exact fu.mono fun b o h=>xg b o (rY b o h),fun b o h=>xg b o (rY b o (hgm b o h))⟩
    intro h46 a H
    try have p46:=dF h46
    refine iD ?_;refine ⟨(.mk l[k].kind l[k].code l[k].id l[k].text (eU acc rej l[k].head) l[k].flow (fZ acc rej l[k].rows),[vi l[k].kind,vi l[k].code,vi l[k].id,.string l[k].text,.slice q1 q2 q3,vi (eU acc rej l[k].head).marks.ins,vi (eU acc rej l[k].head).marks.move,.slice q4 q5 q6,.slice q7 q8 q9,.slice fA fn fc,.slice A41 (fZ acc rej l[k].rows).length c41],JO),by exact H.sub ⟨M,M,M,M,M,M,aC⟩,?_⟩;(try dsimp only);exact ⟨by rw [hce,au p29,ay p36,bU,han],aX.mkItem (x:=.mk l[k].kind l[k].code l[k].id l[k].text (eU acc rej l[k].head) l[k].flow (fZ acc rej l[k].rows)) (Yl.mono xg) (hfl.mono fun b o h=>xg b o (rY b o h)) YA,xg⟩
   intro wY a H
   try have p36:=dF wY
   refine iD ?_;refine ⟨(.mk l[k].kind l[k].code l[k].id l[k].text (eU acc rej l[k].head) l[k].flow l[k].rows,[vi l[k].kind,vi l[k].code,vi l[k].id,.string l[k].text,.slice q1 q2 q3,vi (eU acc rej l[k].head).marks.ins,vi (eU acc rej l[k].head).marks.move,.slice q4 q5 q6,.slice q7 q8 q9,.slice fA fn fc,.slice rA rn rc],_),by exact H.sub ⟨M,M,M,M,M,M,aC⟩,?_⟩;(try dsimp only);exact ⟨by rw [hce,au p29,au p36,han],aX.mkItem (x:=.mk l[k].kind l[k].code l[k].id l[k].text (eU acc rej l[k].head) l[k].flow l[k].rows) Yl (hfl.mono rY) (hrs.mono rY),fun _ _ h=>h⟩
  clear H;rintro ⟨y,cs9,g9⟩ a w hI H;dsimp only at hI H;obtain ⟨hone,IY,CG⟩:=hI;obtain ⟨e1,e2,e3,e4,e5,e6,e7,e8,e9,f1,f2,f3,f4,f5,f6,RS,-,-,-⟩:=IY.item;rw [RS] at H;dsimp only [lca,bM] at H;refine kP H (SC (Rm M ?_));clear H;intro a H;refine bQ eZ (cs:=[_,_,_,_,_,_,_,_,_,_,_]) H wn M M (H.hp.dG 1 M M) M ?_;clear H;intro a H;refine iV iB eZ [_,_,_,_,_,_,_,_,_,_,_] [_,_,_,_,_,_,_,_,_,_,_] H wn M M M M M (by intro i q h;match i,h with|0,h=>exact h|n+1,h=>simp at h) M M ?_;clear H;intro b49 a w aEV H;refine ny (Li:=[_,_,_]) (Lo:=Lo) (news:=cs9) iB eZ M M H wn M M hrw (by rw [RS];rfl) (by rw [RS];exact H.hp.dG 0 M M) IY.one O O M ?_;clear H;intro v50 amW a w axv H;refine kH H (bF K7 M (SC (Rd M (Rm M ?_))));clear H K7;intro a H;refine aD ?_;refine dQ ((k+1,v50,xs++cs9,amW,_)) (by exact (H.eD (Pl:=[_,_,_]) (dK:=[]) [] Z M).sub ⟨M,M,M,M,M,aC⟩) ?_
  (try dsimp only);exact ⟨O,by rw [Mq hk2,hone,gF];exact axv,by rw [Mq hk2,hone,ji];exact (fu.mono fun b o h=>CG b o (rY b o h)).snoc IY (by rw [RS];rfl),fun b o h=>CG b o (rY b o (hgm b o h))⟩
 intro ig a H
 try have sZ:=dF ig
 obtain rfl:k=l.length:=by omega
 rw [uV] at hrw fu;refine dY ?_;refine K3 _ _ ?_;clear K3;refine kP H (SR fun _ eO=>Rm M (aj eO M ?_));clear H eO;intro a H;refine eP ?_;obtain ⟨G',hm,IZ,H⟩:=H.qh (Li:=[]) hrw (rows:=(bZ acc rej l).map ak.dat) (by simp) fu;refine lv H results98 M ?_;exact H.rt IZ
theorem akB {fv:ah}:∀ n:Nat,n<=536870913->Qb fv acc rej n
 | 0,_=>fun _ _ _ _ _ _ _ h=>absurd h O
 | n+1,hn=>aBs (akB n O) O
end
def EL (A:List ak):Prop:=(∀ y∈A,¬ qG y)∧∀ o z y p,A=o++z :: y :: p->¬ pE z y
theorem alm {A o p:List ak} {x z y:ak} (h:A++[x]=o++z :: y :: p):(p=[]∧A=o++[z]∧x=y)∨∃ p',p=p'++[x]∧A=o++z :: y :: p':=by
 rcases List.eq_nil_or_concat p with rfl|⟨p',w,rfl⟩
 ·have e:A++[x]=(o++[z])++[y]:=by rw [h];simp
  obtain ⟨e1,e2⟩:=List.append_inj' e M;exact .inl ⟨M,e1,by simpa using e2⟩
 have e:A++[x]=(o++z :: y :: p')++[w]:=by rw [h];simp
 obtain ⟨e1,e2⟩:=List.append_inj' e M
 have:x=w:=by simpa using e2
 exact .inr ⟨p',by rw [this,List.concat_eq_append],e1⟩
theorem aeA {out:List ak} {y:ak} (h:EL out):EL (addN out y):=by
 by_cases hd:qG y
 ·rw [E8 hd];exact h
 by_cases hj:∃ o z,out=o++[z]∧pE z y
 ·obtain ⟨o,z,rfl,hz⟩:=hj;rw [zU hd hz];refine ⟨fun x hx=>?_,fun o' z' y' p e=>?_⟩
  ·rcases kC.1 hx with hx|hx
   ·exact h.1 x (List.mem_append_left _ hx)
   rw [qY.1 hx];rintro (⟨h1,-⟩|⟨-,h2⟩)
   ·have:(mJ z y).kind=1:=hz.2.1
    omega
   refine hd (.inr ⟨hz.1,?_⟩);rw [show (mJ z y).text=z.text++y.text from rfl,ByteArray.size_append] at h2;omega
  rcases alm e with ⟨rfl,e1,e2⟩|⟨p',rfl,e1⟩
  ·subst e2;refine fun hq=>h.2 o' z' z [] (by rw [e1];simp) ⟨hz.2.1,hq.2.1,hq.2.2⟩
  exact h.2 o' z' y' (p'++[z]) (by rw [e1];simp)
 have hn:∀ o z,out=o++[z]->¬ pE z y:=fun o z e hz=>hj ⟨o,z,e,hz⟩;rw [AQ hd hn];refine ⟨fun x hx=>?_,fun o' z' y' p e=>?_⟩
 ·rcases kC.1 hx with hx|hx
  ·exact h.1 x hx
  rw [qY.1 hx];exact hd
 rcases alm e with ⟨rfl,e1,rfl⟩|⟨p',rfl,e1⟩
 ·exact hn _ _ e1
 exact h.2 o' z' y' p' e1
theorem Wj:∀ (A out:List ak),EL out->EL (A.foldl addN out)
 | [],_,h=>h
 | y :: A,out,h=>Wj A (addN out y) (aeA h)
theorem Wm:EL []:=⟨fun _ h=>(by cases h),fun o z y p e=>by simp at e⟩
theorem aeB:∀ (A B:List ak),EL (A++B)->B.foldl addN A=A++B
 | A,[],_=>by simp
 | A,y :: B,h=>by
  have e:A++y :: B=(A++[y])++B:=by simp
  rw [List.foldl_cons,AQ (h.1 y (by simp)) fun o z e hz=>h.2 o z y B (by rw [e];simp) hz,aeB (A++[y]) B (by rw [<- e];exact h),e]
theorem atX {z y:ak} (hz:nI z=z) (_:nI y=y) (_:pE z y):nI (mJ z y)=mJ z y:=by
 obtain ⟨k,c,i,tx,h,f,r⟩:=z;rw [nI] at hz
 injection hz with _ _ _ _ _ e1 e2
 show nI (.mk k c i (tx++y.text) h f r)=.mk k c i (tx++y.text) h f r
 rw [nI,e1,e2]
theorem Xk {A:List ak} (h:∀ x∈A,nI x=x):(lV (A.foldl addN [])).foldl addN []=A.foldl addN []:=by
 have h1:=Xt (Q:=fun x=>nI x=x) (fun z y hz hy hj=>atX hz hy hj) A [] h (fun _ h=>by cases h)
 have h2:lV (A.foldl addN [])=A.foldl addN []:=by
  rw [Jk];exact (List.map_congr_left h1).trans (List.map_id' _)
 rw [h2];have h3:=aeB [] (A.foldl addN []) (by rw [jA];exact Wj A [] Wm)
 rwa [jA] at h3
mutual
theorem azx:∀ x:ak,nI (nI x)=nI x
 | .mk k c i tx h f r=>by
  have hf:=SN f;have hr:=ZM r;rw [nI,nI,Xk hf,hr]
theorem azy:∀ x:aO,nR (nR x)=nR x
 | .mk h cs=>by
  have hc:=ajz cs;rw [nR,nR,hc]
theorem azt:∀ x:aQ,nC (nC x)=nC x
 | .mk i h f=>by
  have hf:=SN f;rw [nC,nC,Xk hf]
theorem SN:∀ l:List ak,∀ x∈lV l,nI x=x
 | [],x,hx=>by rw [lV] at hx;cases hx
 | y :: l,x,hx=>by
  have h1:=azx y;have h2:=SN l;rw [lV] at hx
  rcases gu.1 hx with rfl|hx
  ·exact h1
  exact h2 x hx
theorem ZM:∀ l:List aO,kW (kW l)=kW l
 | []=>by rw [kW,kW]
 | y :: l=>by rw [kW,kW,azy y,ZM l]
theorem ajz:∀ l:List aQ,kV (kV l)=kV l
 | []=>by rw [kV,kV]
 | y :: l=>by rw [kV,kV,azt y,ajz l]
end
section
section
variable {N:Nat} {D:List Deferred} {w0:World} {F:Nat->Prop} {G0 G:GH} {L:OL} {T:List (Nat × ah)}
variable {r:Option Nat} {P:Program} {ops:Array Oper} {Q:Exit->Act->World->Prop} {rest:List Oper} {a:Act} {w:World}
variable {d:Nat} {ty:TypeId} {pos:String} {aL:Array Edge} {g:Option (Nat × Bool)}
end
end
def aje:Go.Shelf.Ren:=⟨fun|7=>90|10=>150|n=>n,fun|0=>0|3=>4|4=>4|23=>131|26=>3|27=>165|28=>166|33=>137|n=>n,fun n=>n⟩
theorem ajd:Go.Proofs.SlLaysZI.n7 prog aje where
 mixed:=by kernel_rfl
 f7:=⟨f90.name,V,func90.trans (cO some V)⟩
 f10:=⟨f150.name,V,func150.trans (cO some V)⟩
 t0:=underlying0
 a0:=isAgg0
 z0:=sizeOf0
 v0:=zeroValue0
 t4:=underlying4
 a4:=isAgg4
 z4:=sizeOf4
 v4:=zeroValue4
 t23:=underlying131
 a23:=isAgg131
 z23:=sizeOf131
 v23:=zeroValue131
 t26:=underlying3
 a26:=isAgg3
 z26:=sizeOf3
 v26:=zeroValue3
 t27:=underlying165
 a27:=isAgg165
 z27:=sizeOf165
 v27:=zeroValue165
 t28:=underlying166
 a28:=isAgg166
 z28:=sizeOf166
 v28:=zeroValue166
 t33:=underlying137
 a33:=isAgg137
 z33:=sizeOf137
 v33:=zeroValue137
def alo:Go.Shelf.Ren:=⟨fun|6=>89|8=>149|9=>148|11=>209|n=>n,fun|0=>0|24=>41|26=>3|28=>166|33=>137|n=>n,fun n=>n⟩
theorem aCV:Go.Proofs.SlLaysZI.n6 prog alo where
 mixed:=by kernel_rfl
 f6:=⟨f89.name,V,func89.trans (cO some V)⟩
 f8:=⟨f149.name,V,func149.trans (cO some V)⟩
 f11:=⟨f209.name,V,func209.trans (cO some V)⟩
 t0:=underlying0
 a0:=isAgg0
 z0:=sizeOf0
 v0:=zeroValue0
 t24:=underlying41
 a24:=isAgg41
 z24:=sizeOf41
 v24:=zeroValue41
 t26:=underlying3
 a26:=isAgg3
 z26:=sizeOf3
 v26:=zeroValue3
 t28:=underlying166
 a28:=isAgg166
 z28:=sizeOf166
 v28:=zeroValue166
 i26:=by kernel_rfl
def aCU:Go.Shelf.Ren:=⟨fun|5=>148|7=>207|8=>208|10=>230|11=>231|12=>232|13=>233|14=>234|15=>235|16=>114|17=>236|18=>237|19=>238|20=>239|30=>255|31=>256|32=>257|33=>258|34=>259|35=>174|40=>269|n=>n,fun|0=>0|3=>3|4=>4|5=>5|9=>9|22=>41|23=>41|25=>3|32=>199|35=>301|36=>302|41=>114|44=>308|46=>310|53=>328|57=>180|63=>344|64=>345|n=>n,fun n=>n⟩
theorem aln:Go.Proofs.SlLaysM.n5 prog aCU where
 mixed:=by kernel_rfl
 f5:=⟨f148.name,V,func148.trans (cO some V)⟩
 f7:=⟨f207.name,V,func207.trans (cO some V)⟩
 f8:=func208.trans (cO some V)
 f10:=⟨f230.name,V,func230.trans (cO some V)⟩
 f11:=⟨f231.name,V,func231.trans (cO some V)⟩
 f12:=⟨f232.name,V,func232.trans (cO some V)⟩
 f13:=⟨f233.name,V,func233.trans (cO some V)⟩
 f14:=⟨f234.name,V,func234.trans (cO some V)⟩
 f15:=⟨f235.name,V,func235.trans (cO some V)⟩
 f16:=⟨f114.name,V,func114.trans (cO some V)⟩
 f17:=⟨f236.name,V,func236.trans (cO some V)⟩
 f18:=⟨f237.name,V,func237.trans (cO some V)⟩
 f19:=func238.trans (cO some V)
 f20:=func239.trans (cO some V)
 f30:=⟨f255.name,V,func255.trans (cO some V)⟩
 f31:=func256.trans (cO some V)
 f32:=func257.trans (cO some V)
 f33:=⟨f258.name,V,func258.trans (cO some V)⟩
 f34:=⟨f259.name,V,func259.trans (cO some V)⟩
 f35:=⟨f174.name,V,func174.trans (cO some V)⟩
 f40:=⟨f269.name,V,func269.trans (cO some V)⟩
 t0:=underlying0
 a0:=isAgg0
 z0:=sizeOf0
 v0:=zeroValue0
 t3:=underlying3
 a3:=isAgg3
 z3:=sizeOf3
 v3:=zeroValue3
 t4:=underlying4
 a4:=isAgg4
 z4:=sizeOf4
 v4:=zeroValue4
 t5:=underlying5
 a5:=isAgg5
 z5:=sizeOf5
 v5:=zeroValue5
 t9:=underlying9
 a9:=isAgg9
 z9:=sizeOf9
 v9:=zeroValue9
 t22:=underlying41
 a22:=isAgg41
 z22:=sizeOf41
 v22:=zeroValue41
 t23:=underlying41
 a23:=isAgg41
 z23:=sizeOf41
 v23:=zeroValue41
 t25:=underlying3
 a25:=isAgg3
 z25:=sizeOf3
 v25:=zeroValue3
 t32:=underlying199
 a32:=isAgg199
 z32:=sizeOf199
 v32:=zeroValue199
 t35:=underlying301
 a35:=isAgg301
 z35:=sizeOf301
 v35:=zeroValue301
 t36:=underlying302
 a36:=isAgg302
 z36:=sizeOf302
 v36:=zeroValue302
 t41:=underlying114
 a41:=isAgg114
 z41:=sizeOf114
 v41:=zeroValue114
 t44:=underlying308
 a44:=isAgg308
 z44:=sizeOf308
 v44:=zeroValue308
 t46:=underlying310
 a46:=isAgg310
 z46:=sizeOf310
 v46:=zeroValue310
 t53:=underlying328
 a53:=isAgg328
 z53:=sizeOf328
 v53:=zeroValue328
 t57:=underlying180
 a57:=isAgg180
 z57:=sizeOf180
 v57:=zeroValue180
 t63:=underlying344
 a63:=isAgg344
 z63:=sizeOf344
 v63:=zeroValue344
 t64:=underlying345
 a64:=isAgg345
 z64:=sizeOf345
 v64:=zeroValue345
section
open Go.RowKit Go.Maps
theorem aqS:aR 148:=aS func148 M
theorem aqU:aR 150:=aS func150 M
theorem awY {G:GH} {w:World} (h:Hold G w) {b:Nat} (hb:w.heap.size<=b):G b=none:=by
 cases hg:G b with
 | none=>rfl
 | some o=>exact absurd (lt_of_heap (h b o hg)) O
theorem agh {G:GH} {w w':World} (h:Hold G w) (hb:Below w.heap.size w w') {b:Nat} {o:Obj} (hn:w.heap.size<=b) (ho:w'.heap[b]?=some o):Ext w.heap.size G (G.add b o) w':=by
 refine ⟨fun k o' hk=>GH.J4 G (awY h hn) k o' hk,fun k o' hk=>?_,fun k o' hk=>?_⟩
 ·unfold GH.add at hk
  split at hk
  ·rename_i e;exact .inr (e ▸ hn)
  exact .inl hk
 unfold GH.add at hk
 split at hk
 ·rename_i e;rw [e,ho,hk]
 exact (hb.block k (lt_of_heap (h k o' hk))).trans (h k o' hk)
theorem azp (G:GH) (w0:World) (hG:Hold G w0) (mb:Option Nat) :
  Calls prog 90 #[.map mb] w0 (bE w0 G fun u G'=>∃ bx,u=.func (.func 150) #[] #[(aH bx 0)]∧G' bx=some (.cells #[.map mb] 131 (0,0))):=by
 have h:CallsIn Fence.wide 5 prog 90 #[.map mb] w0 fun e w'=>e=.returned (.func (.func 150) #[] #[(aH w0.heap.size 0)])∧w'=w0.alloc (.cells #[.map mb] 131):=AnyZI.keys_in ajd Fence.wide 5 trivial M mb w0;refine ((callsIn_wide (n:=5)).1 h).mono ?_;rintro e w' ⟨rfl,rfl⟩;have hb:Below w0.heap.size w0 (w0.alloc (.cells #[.map mb] 131)):=(Below.refl _ w0).alloc (dS _) _;exact ⟨_,_,M,hb,agh hG hb (dS _) (show (w0.heap.push _)[w0.heap.size]?=_ by simp),_,M,GH.J5 _ _ _⟩
def Ju (_:ah):Option (DataW Unit × List MemPlace):=some (.nil,[])
theorem aAh {w:World} {b clock:Nat} {es:Array MapEntry} {l:List Int} (hb:w.heap[b]?=some (.map es clock)) (hs:MapKept.Stamped es clock) (hk:es.toList.map (·.key)=l.map (Value.int .i64)) (hw:∀ k∈l,-9223372036854775808<=k∧k < 9223372036854775808) (hl:l.length<=4294967296) :
  ∃ D:DataW Unit,w.ownsMap prog 3 Ju b l.length D∧(intKeys D).Perm l∧Maps.size D=l.length:=by
 have hlen:es.size=l.length:=by
  have:=cO List.length hk
  simpa using this
 have hml:maxLen=9223372036854775807:=rfl
 have hr:∀ x∈es.toList,∃ k∈l,Go.WideElems.rd prog 3 Ju x=some (.int .i64 k,.nil):=by
  intro x hx
  have h1:x.key∈l.map (Value.int .i64):=by rw [<- hk];exact List.mem_map_of_mem hx
  obtain ⟨k,h2,h3⟩:=List.mem_map.1 h1;obtain ⟨h4,h5⟩:=hw k h2
  have hwf:(Lit.int .i64 k).wf=true:=by
   show (decide (IntKind.i64.min<=k) && decide (k<=IntKind.i64.max))=true
   rw [show IntKind.i64.min=-9223372036854775808 by decide,show IntKind.i64.max=9223372036854775807 by decide]
   simp;omega
  refine ⟨k,h2,?_⟩
  unfold Go.WideElems.rd
  rw [<- h3]
  have h6:keyOf prog 3 (.int .i64 k)=some (.int .i64 k):=by
   unfold keyOf mapKey
   rw [underlying3]
   simp [hwf]
  rw [h6]
  rfl
 refine ⟨_,⟨es,clock,hb,⟨O,hs,fun x hx=>?_⟩,O,M⟩,?_,?_⟩
 ·obtain ⟨k,-,h⟩:=hr x hx;exact ⟨_,h⟩
 ·show (((es.toList.map (Go.WideElems.rg prog 3 Ju)).foldr DataW.insert []).map fun p=>Go.intOf p.1).Perm l
  refine ((Go.WideShapes.sorted_perm _).map _).trans ?_;rw [List.map_map]
  have h1:es.toList.map ((fun p:Lit × DataW Unit=>Go.intOf p.1) ∘ Go.WideElems.rg prog 3 Ju)=l:=by
   have h2:es.toList.map ((fun p:Lit × DataW Unit=>Go.intOf p.1) ∘ Go.WideElems.rg prog 3 Ju)=(es.toList.map (·.key)).map fun v=>match v with|.int _ a=>a|_=>0:=by
    rw [List.map_map];refine List.map_congr_left fun x hx=>?_;obtain ⟨k,hkl,h⟩:=hr x hx
    obtain ⟨k',h3,h4⟩:∃ k',Go.WideElems.rd prog 3 Ju x=some (.int .i64 k',.nil)∧x.key=.int .i64 k':=by
     have h5:x.key∈l.map (Value.int .i64):=by rw [<- hk];exact List.mem_map_of_mem hx
     obtain ⟨k',h6,h7⟩:=List.mem_map.1 h5;refine ⟨k,h,?_⟩;have h8:=Go.WideElems.rd_key h;obtain ⟨z,h9,h10,-⟩:=Maps.keyOf_i64 underlying3 h8
     cases h10
     exact h9
    simp only [Function.comp,Go.WideElems.rg_of h3,h4,Go.intOf]
   rw [h2,hk,List.map_map]
   simp [Function.comp_def]
  rw [h1]
 show ((es.toList.map (Go.WideElems.rg prog 3 Ju)).foldr DataW.insert []).length=_
 rw [(Go.WideShapes.sorted_perm _).length_eq,bK,pY,hlen]
theorem aCX (m:Nat):AnyZI.SortsIn prog alo Fence.wide m :=
  ⟨fun blk off cap ss W hH hblk hsz=>callsIn_wide.2 (AnyM.slices_Sort_int aln blk off cap ss W hH hblk hsz),
   fun p cap W=>callsIn_wide.2 (AnyM.slices_Sort_int_none aln p cap W)⟩
def Ao (l:List Int):List Int:=l.mergeSort leI
theorem aCW (G:GH) (w0:World) (hG:Hold G w0) (b bx clock:Nat) (es:Array MapEntry) (l:List Int) (hbx:G bx=some (.cells #[.map (some b)] 131 (0,0))) (hb:w0.heap[b]?=some (.map es clock)) (hs:MapKept.Stamped es clock) (hk:es.toList.map (·.key)=l.map (Value.int .i64))
  (hw:∀ k∈l,-9223372036854775808<=k∧k < 9223372036854775808) (hl:l.length<=4294967296) :
  Calls prog 89 #[.func (.func 150) #[] #[(aH bx 0)]] w0 (bE w0 G fun u G'=>av G' (.sl 1 ((Ao l).map fun k=>[li k])) u):=by
 obtain ⟨D0,hown,hperm,hsize⟩:=aAh hb hs hk hw hl;have hml:maxLen=9223372036854775807:=rfl
 have hseq:SeqGives Fence.wide 2 prog 150 #[(aH bx 0)] encZ (fun ss=>ss.Perm (intKeys D0)) (Maps.size D0) w0 :=
  AnyZI.keys_gives (ρ:=aje) { ajd with } Fence.wide _ trivial M O bx b l.length D0 _ (lt_of_heap (hG _ _ hbx)) (by simp [World.cell?,hG _ _ hbx]) hown
 have cS:=AnyZI.sorted_in aCV Fence.wide 5 trivial trivial trivial trivial M O (aCX _) aqS 150 #[(aH bx 0)] trivial aqU _ _ O O _ hseq
 change CallsIn _ _ prog 89 _ _ _ at cS
 refine ((callsIn_wide (n:=5)).1 cS).mono ?_;rintro e w' ⟨v,ss,rfl,hS,hrow,-,hbel⟩;have hS2:ss.mergeSort (fun x y=>decide (x<=y))=Ao l:=mergeSort_of_perm_i (hS.trans hperm);rw [hS2] at hrow
 have hlen:ss.length=(Ao l).length:=by rw [Ao,List.length_mergeSort,hS.length_eq,hperm.length_eq]
 have fu:∀ (G1:GH) (xs:List Int),dx G1 1 (xs.map fun k=>[li k]) (xs.map encZ):=by
  intro G1 xs
  induction xs with
  | nil=>exact dx.nil
  | cons x xs ih =>
   have h8:=((dx.nil (G:=G1) (sz:=1)).snoc (q:=[li x]) (cs:=[encZ x]) (by simp [aX,av,li,Value.oneCell']) M).append ih
   simpa using h8
 rcases hrow.2 with ⟨rfl,hz⟩|⟨gb,cap,cur,rfl,hbase,hgb,r1,r2,r3,r4⟩
 ·refine ⟨_,G,M,hbel,⟨fun _ _ h=>h,fun _ _ h=>.inl h,fun k o hk=>(hbel.block k (lt_of_heap (hG k o hk))).trans (hG k o hk)⟩,?_⟩;rw [List.eq_nil_of_length_eq_zero (by omega:(Ao l).length=0)]
  simp only [av]
  exact abV
 exact ⟨_,_,M,hbel,agh hG hbel hbase hgb,av.wI (GH.J5 G gb _) (by simp [hlen]) r1 r2 (by simpa using r4) (fu _ _)⟩
end
section
abbrev jX (l:List Int):List (Int × ah):=l.map fun q=>(q,.bool true)
theorem alc (l:List Int):(jX l).map (·.1)=l:=by rw [List.map_map];simp [Function.comp_def]
theorem aCl (l r:List Int):jX (l++r)=jX l++jX r:=ji
theorem ZJ:∀ (i:Nat) (l:List (Int × ah)),(jw i l).map (·.key)=l.map fun x=>Value.int .i64 x.1
 | _,[]=>rfl
 | i,(k,v) :: r=>by rw [jw,dO,dO,ZJ (i+1) r]
theorem ZI:∀ (i:Nat) (l:List (Int × ah)),(jw i l).map (·.born)=List.range' i l.length
 | _,[]=>rfl
 | i,(k,v) :: r=>by rw [jw,dO,ZI (i+1) r];rfl
theorem ajv:∀ (i n:Nat) (l:List (Int × ah)),(jw i l)[n]?=(l[n]?).map fun x=>⟨.int .i64 x.1,x.2,i+n⟩
 | _,_,[]=>rfl
 | i,0,(k,v) :: r=>rfl
 | i,n+1,(k,v) :: r=>by rw [jw,List.getElem?_cons_succ,List.getElem?_cons_succ,ajv (i+1) n r,show i+1+n=i+(n+1) by omega]
theorem azo {l:List (Int × ah)} (h:(l.map (·.1)).Nodup):MapKept.Stamped (jw 0 l).toArray l.length:=by
 refine ⟨fun x hx=>?_,?_,?_⟩
 ·have h1:=List.mem_map_of_mem (f:=(·.born)) hx
  rw [ZI] at h1
  have:=List.mem_range'_1.1 h1
  omega
 ·show ((jw 0 l).map (·.born)).Nodup
  rw [ZI];exact List.nodup_range'
 ·show ((jw 0 l).map (·.key)).Nodup
  rw [ZJ,show (fun x:Int × ah=>Value.int .i64 x.1)=Value.int .i64 ∘ (·.1) from rfl,<- List.map_map]
  exact List.pairwise_map.2 (h.imp fun hne e=>hne (by injection e))
theorem Xi (x:Int):∀ (i j:Nat) (l:List Int),∃ an,Instr.findNow (.int .i64) (.int .i64 x) (jw i (jX l)) j=some an∧((x∈l∧∃ n,an=some (j+n,.bool true)∧l[n]?=some x)∨(x∉l∧an=none))
 | _,_,[]=>⟨none,M,.inr ⟨by simp,M⟩⟩
 | i,j,k :: r=>by
  by_cases e:k=x
  ·subst e
   exact ⟨some (j,.bool true),by simp only [jX,dO,jw,Instr.findNow,Instr.sameNow,ay,beq_self_eq_true],.inl ⟨dV,0,M,M⟩⟩
  ·have hb:(x == k)=false:=by simp;exact fun h=>e h.symm
   obtain ⟨an,h1,h2⟩:=Xi x (i+1) (j+1) r
   refine ⟨an,by simpa only [jX,dO,jw,Instr.findNow,Instr.sameNow,ay,hb] using h1,?_⟩
   rcases h2 with ⟨h3,n,h4,h5⟩|⟨h3,h4⟩
   ·exact .inl ⟨gI _ h3,n+1,by rw [h4,show j+1+n=j+(n+1) by omega],h5⟩
   ·exact .inr ⟨fun h=>(gu.1 h).elim (fun h=>e h.symm) h3,h4⟩
theorem ZK {α β:Type} (f:α->β):∀ (l:List α) (j:Nat),(l.eraseIdx j).map f=(l.map f).eraseIdx j
 | [],_=>rfl
 | x :: l,0=>rfl
 | x :: l,j+1=>by rw [List.eraseIdx_cons_succ,dO,dO,List.eraseIdx_cons_succ,ZK f l j]
def yN (l:List Int) (x:Int):List Int:=if x∈l then l else l++[x]
theorem anj {l:List Int} {x y:Int}:y∈yN l x↔y∈l∨y=x:=by
 unfold yN
 split
 ·rename_i h
  exact ⟨.inl,fun h2=>h2.elim id fun e=>e ▸ h⟩
 ·simp
theorem ank {l:List Int} {x:Int} (h:l.Nodup):(yN l x).Nodup:=by
 unfold yN
 split
 ·exact h
 ·rename_i hx
  exact List.nodup_append.2 ⟨h,List.pairwise_singleton _ _,fun a ha b hb e=>hx (by rw [qY] at hb;rw [<- hb,<- e];exact ha)⟩
section
variable {N:Nat} {D:List Deferred} {w0:World} {F:Nat->Prop} {G0 G:GH} {L:OL} {T:List (Nat × ah)}
variable {r:Option Nat} {P:Program} {ops:Array Oper} {Q:Exit->Act->World->Prop} {rest:List Oper} {a:Act} {w:World}
variable {d:Nat} {ty:TypeId} {pos:String} {aL:Array Edge} {g:Option (Nat × Bool)}
theorem aas {t kt et:TypeId} {x y z:Operand} {b i:Nat} {l:List Int} {ky:Int} (hm:P.underlying t=some (.map kt et)) (hk:P.underlying kt=some (.int .i64)) (H:St N D w0 F G0 G L T a w)
  (hw:Region.wanted ⟨none,.mapUpdate t x y z,ty,pos,aL,g⟩ (yielded ops a.tmps)=true) (hx:ev T x=some (.map (some b))) (hy:ev T y=some (.int .i64 ky)) (hzv:ev T z=some (.bool true)) (hi:L[i]?=some (b,fJ (jX l)))
  (k:∀ w',St N D w0 F G0 G (L.set i (b,fJ (jX (yN l ky)))) T a w'->WL r P ops Q rest a w'):WL r P ops Q (⟨none,.mapUpdate t x y z,ty,pos,aL,g⟩ :: rest) a w:=by
 obtain ⟨an,hf,han⟩:=Xi ky 0 0 l
 rcases han with ⟨hm2,n,rfl,hn⟩|⟨hm2,rfl⟩
 ·have hkey:MapKept.IsKey (.int .i64) (.int .i64 ky):=by trivial
  have hb:w.heap[b]?=some (.map (jw 0 (jX l)).toArray (jX l).length):=H.hp.own _ (lZ hi)
  have h1:=MapKept.run_checkKey (P:=P) (w:=w) hk hkey false 9999
  have h2:=MapKept.run_findKey (P:=P) (w:=w) (l:=(jw 0 (jX l)).toArray.toList) hk (by simpa using hf)
  have h3:=MapKept.run_keyThatStays (P:=P) (w:=w) hkey
  have hgn:(jw 0 (jX l))[n]?=some ⟨.int .i64 ky,.bool true,0+n⟩:=by
   rw [ajv];unfold jX;rw [qD,hn];rfl
  have hg:((jw 0 (jX l)).toArray[n]?.map (·.key)).getD (.int .i64 ky)=.int .i64 ky:=by
   rw [List.getElem?_toArray,hgn];rfl
  have hmod:(jw 0 (jX l)).toArray.modify n (fun e=>{ e with key:=.int .i64 ky,val:=.bool true })=(jw 0 (jX l)).toArray:=by
   apply Array.ext_getElem?
   intro j
   rw [Array.getElem?_modify]
   by_cases hij:n=j
   ·subst hij
    rw [ay M,List.getElem?_toArray,hgn];rfl
   ·rw [au hij]
  have ha:yN l ky=l:=by unfold yN;rw [ay hm2]
  rw [ha] at k
  refine aaZ (w':={ w with heap:=w.heap.setIfInBounds b (fJ (jX l)) }) hw M ?_ (k _ (H.move (H.hp.upd hi (aaT hb))))
  show (execOp a.eval _).run P w=.ok _ { w with heap:=w.heap.setIfInBounds b (.map (jw 0 (jX l)).toArray (jX l).length) }
  generalize (jw 0 (jX l)).toArray=es at hb h2 hg hmod |-
  simp [execOp,Instr.mapUpdate,H.ev hx,H.ev hy,H.ev hzv,dP,nu hm,MapKept.run_getObj_map hb,h1,h2,hg,h3,hmod,MapKept.run_setObj_map _ hb,Result.andThen]
 ·refine O5 hm hk H hw hx hy hzv hi (OO (by rw [alc];exact hm2)) fun w' H'=>k w' ?_
  have ha:yN l ky=l++[ky]:=by unfold yN;rw [au hm2]
  rw [ha,aCl]
  exact H'
theorem aBT {t kt et:TypeId} {x y:Operand} {b i:Nat} {l:List Int} {ky:Int} (hm:P.underlying t=some (.map kt et)) (hk:P.underlying kt=some (.int .i64)) (hnd:l.Nodup) (H:St N D w0 F G0 G L T a w)
  (hw:Region.wanted ⟨none,.call { callee:=.builtin .delete,args:=#[x,y],argTypes:=#[t,kt] },ty,pos,aL,g⟩ (yielded ops a.tmps)=true) (hx:ev T x=some (.map (some b))) (hy:ev T y=some (.int .i64 ky)) (hi:L[i]?=some (b,fJ (jX l)))
  (k:∀ es clock w',MapKept.Stamped es clock->es.toList.map (·.key)=(l.filter fun q=>decide (q≠ky)).map (Value.int .i64)->St N D w0 F G0 G (L.set i (b,.map es clock)) T a w'->WL r P ops Q rest a w'):WL r P ops Q (⟨none,.call { callee:=.builtin .delete,args:=#[x,y],argTypes:=#[t,kt] },ty,pos,aL,g⟩ :: rest) a w:=by
 obtain ⟨an,hf,han⟩:=Xi ky 0 0 l
 have hkey:MapKept.IsKey (.int .i64) (.int .i64 ky):=by trivial
 have hb:w.heap[b]?=some (.map (jw 0 (jX l)).toArray (jX l).length):=H.hp.own _ (lZ hi)
 have hst:=azo (l:=jX l) (by rw [alc];exact hnd)
 have hks:(jw 0 (jX l)).toArray.toList.map (·.key)=l.map (Value.int .i64):=by
  show (jw 0 (jX l)).map (·.key)=_
  rw [ZJ,List.map_map];rfl
 have h2:=fun es':Array MapEntry=>aaT (o:=.map es' (jX l).length) hb
 have h3:=MapKept.run_findKey (P:=P) (w:=w) (l:=(jw 0 (jX l)).toArray.toList) hk (by simpa using hf)
 rcases han with ⟨hm2,n,rfl,hn⟩|⟨hm2,rfl⟩
 ·have hnl:n < l.length:=(jZ.1 hn).1
  have hln:l[n]=ky:=(jZ.1 hn).2
  have hsz:n < (jw 0 (jX l)).toArray.size:=by
   have:=cO List.length hks
   simp at this
   simp;omega
  have awi:((jw 0 (jX l)).toArray.eraseIdxIfInBounds n).toList=(jw 0 (jX l)).toArray.toList.eraseIdx n:=by
   unfold Array.eraseIdxIfInBounds
   rw [dif_pos hsz]
   simp
  refine fI (v:=.tuple #[]) (w':={ w with heap:=w.heap.setIfInBounds b (.map ((jw 0 (jX l)).toArray.eraseIdxIfInBounds n) (jX l).length) }) hw M ?_
   (k _ _ _ (MapKept.stamped_erase hst n) ?_ (H.move (H.hp.upd hi (h2 _))))
  ·generalize (jw 0 (jX l)).toArray=es at hb h3 |-
   have h1:=MapKept.run_checkKey (P:=P) (w:=w) hk hkey es.isEmpty 9999
   simp [execOp,resolve,invoke,builtin,Builtin.delete_,H.ev hx,H.ev hy,dP,nu hm,MapKept.run_getObj_map hb,h1,h3,MapKept.run_setObj_map _ hb,Result.andThen]
  ·rw [awi,ZK,hks,<- ZK]
   congr 1
   have he:l.erase ky=l.eraseIdx n:=by
    have:=hnd.idxOf_getElem n hnl
    rw [hln] at this
    rw [<- this];exact List.erase_eq_eraseIdx_of_idxOf M
   rw [<- he,hnd.erase_eq_filter]
   exact List.filter_congr fun x _=>by by_cases h:x=ky <;> simp [h]
 ·refine fI (v:=.tuple #[]) (w':={ w with heap:=w.heap.setIfInBounds b (.map (jw 0 (jX l)).toArray (jX l).length) }) hw M ?_ (k _ _ _ hst ?_ (H.move (H.hp.upd hi (h2 _))))
  ·generalize (jw 0 (jX l)).toArray=es at hb h3 |-
   have h1:=MapKept.run_checkKey (P:=P) (w:=w) hk hkey es.isEmpty 9999
   simp [execOp,resolve,invoke,builtin,Builtin.delete_,H.ev hx,H.ev hy,dP,nu hm,MapKept.run_getObj_map hb,h1,h3,MapKept.run_setObj_map _ hb,Result.andThen]
  ·rw [hks,List.filter_eq_self.2 fun x hx=>mY (show ¬ x=ky from fun e=>hm2 (e ▸ hx))]
end
end
theorem asW:aR 90:=aS func90 M
theorem asV:aR 89:=aS func89 M
theorem afZ:aR 87:=aS func87 M
theorem asD:aR 38:=aS func38 M
def refs (h:dD):List Int:=h.marks.ins :: (h.marks.bD.map gT.rev++h.marks.layers.map bW.rev)
def uj (K l:List Int):List Int:=l.foldl yN K
theorem Qd (K l r:List Int):uj K (l++r)=uj (uj K l) r:=List.foldl_append
theorem Qe {l:List Int}:∀ {K:List Int} {y:Int},y∈uj K l↔y∈K∨y∈l:=by
 induction l with
 | nil=>intro K y;simp [uj]
 | cons x l ih =>
  intro K y
  show y∈uj (yN K x) l↔_
  rw [ih,anj,gu,or_assoc]
theorem abz {l:List Int}:∀ {K:List Int},K.Nodup->(uj K l).Nodup:=by
 induction l with
 | nil=>intro K h;exact h
 | cons x l ih=>intro K h;exact ih (ank h)
theorem anl {K:List Int} {x:Int} {α:Type} {f:α->Int} {A:List α} {k:Nat} (hk:k < A.length):yN (uj K (x :: (A.take k).map f)) (f A[k])=uj K (x :: (A.take (k+1)).map f):=by
 rw [jK hk,ji,<- pR,Qd];rfl
theorem anm {K B:List Int} {x:Int} {α:Type} {f:α->Int} {A:List α} {k:Nat} (hk:k < A.length):yN (uj K (x :: (B++(A.take k).map f))) (f A[k])=uj K (x :: (B++(A.take (k+1)).map f)):=by
 rw [jK hk,ji,show x :: (B++((A.take k).map f++[A[k]].map f))=(x :: (B++(A.take k).map f))++[f A[k]] from by simp,Qd];rfl
abbrev Dm (b3 bm:Nat) (K:List Int):OL:=[(b3,.cells #[.map (some bm)] 131 (0,0)),(bm,fJ (jX K))]
set_option maxHeartbeats 2000000 in
theorem ajQ (G:GH) (w0:World) (b3 bm:Nat) (K:List Int) (h:dD) (p d y:Option Addr × Nat × Nat) (hR:jG G h (dh p) (dh d) (dh y)) (hO:gq G (Dm b3 bm K) w0) :
  Calls prog 87 #[.agg #[dh p,vi h.marks.ins,vi h.marks.move,dh d,dh y],(aH b3 0)] w0 (fM w0 G (Dm b3 bm K) fun _ G' L'=>L'=Dm b3 bm (uj K (refs h))):=by
 obtain ⟨dA,dn,dc⟩:=d;obtain ⟨yA,yn,yc⟩:=y;have hml:maxLen=9223372036854775807:=rfl;have hd:=hR.bD;have hy:=hR.layers;dsimp only [dh] at hd hy;have e1:=hd.len;have e2:=hy.len;rw [bK] at e1 e2;subst e1 e2;obtain ⟨_,_,hu1,hd1,hd2,-⟩:=hd.slice;obtain ⟨_,_,hu2,hy1,hy2,-⟩:=hy.slice
 injection hu1 with q1 q2 q3
 subst q1 q3
 injection hu2 with q1 q2 q3
 subst q1 q3;rw [bK] at hd1 hy1;refine jc (N:=35) (T:=[(0,_),(1,_)]) func87 M ntmps87 M M hO ?_;intro a H;refine cZ (fun _ K1=>?_);refine dZ (cs:=[_,_,_,_,_]) H wn M M M ?_;clear H;intro b2 a w hb2 H;refine K1 _ _ ?_;clear K1;refine kP H (SR fun _ K2=>Ro vJ 1 M (Rf oh M (bC tL aF 0 M M ?_)));clear H;intro a H;refine aas (i:=2) zK mX H wn M M M M ?_;clear H;intro w H;dsimp only [List.set] at H;refine K2 _ _ ?_;clear K2;refine kP H (SQ fun _ K3=>SR fun _ K4=>Rf oh M (bC qH qO 0 M M (Rl mQ M (Rm M (Kz K4 (SB ?_))))));clear H K4;intro a H;skip;refine fD (ι:=Nat) (Tc:=[(1,_),(2,_),(13,_),(14,_)]) (Lc:=[(_,_),(_,_)]) (fun gh=>[(15,vi gh)]) (fun gh=>[(bm,fJ (jX (uj K (h.marks.ins :: (h.marks.bD.take gh).map gT.rev))))]) (fun gh=>G) (fun gh=>gh<=h.marks.bD.length) (fun gh=>h.marks.bD.length - gh) (0) (by exact H.sub ⟨M,M,M,M,M,aC⟩) ?_ ?_
 ·exact Fb
 clear H;intro i a w hI H;have hi:=hI;dsimp only [lca,bM] at H;refine kP H (SR fun _ K5=>Rc M (Kz K5 (SQ fun _ K6=>Cd M ?_ ?_))) <;> clear H K5
 ·intro h16 a H
  try have p16:=dT h16
  have hi2:i < h.marks.bD.length:=by omega
  obtain ⟨b,o,rfl,hrow⟩:=QW hd hi2;refine kP H (Kc K6 (SQ fun _ K7=>SB (SR fun _ K8=>Ri mQ oJ M M ?_)));clear H K6;intro a H;refine bQ oJ (cs:=[_,_]) H wn M M (fun j v hj=>H.hp.aI (hrow j v hj)) M ?_;clear H;intro a H;refine dW oJ H wn M ?_;clear H;intro b4 a w hb4 H;refine bJ oJ 0 (vs:=[_,_]) H wn M ?_;clear H;intro w H;refine K8 _ _ ?_;clear K8;refine kP H (SC (Ro vJ 2 M (bC Fg aF 0 M M ?_)));clear H;intro a H;refine aas (i:=3) zK mX H wn M M M M ?_;clear H;intro w H;dsimp only [List.set] at H;rw [anl hi2] at H;refine kH H (Kn K7 (SC (Rd M (Rm M ?_))));clear H K7;intro a H;refine aD ?_;refine dQ (i+1) (by exact (H.eD (Pl:=[_,_,_,_]) (dK:=[_,_,_]) [1,2,3] Z M).sub ⟨M,M,M,M,M,aC⟩) ?_
  omega
 intro h16 a H
 try have p16:=dF h16
 obtain rfl:i=h.marks.bD.length:=by omega
 rw [uV] at H;refine dY ?_;refine K3 _ _ ?_;clear K3;refine kP H (SR fun _ K9=>Rf oh M (bC Bd BQ 0 M M (Rl mq M (Rm M (Kz K9 (SB ?_))))));clear H K9;intro a H;skip;refine fD (ι:=Nat) (Tc:=[(1,_),(25,_),(26,_)]) (Lc:=[(_,_),(_,_)]) (fun gh=>[(27,vi gh)]) (fun gh=>[(bm,fJ (jX (uj K (h.marks.ins :: (h.marks.bD.map gT.rev++(h.marks.layers.take gh).map bW.rev)))))]) (fun gh=>G) (fun gh=>gh<=h.marks.layers.length) (fun gh=>h.marks.layers.length - gh) (0) (by exact (by rw [List.take_zero,qZ,fG];exact (H.sub ⟨M,M,M,M,aC⟩))) ?_ ?_
 ·exact Fb
 clear H;intro k a w hI H;have hk:=hI;dsimp only [lca,bM] at H;refine kP H (SR fun _ aT=>Rc M (Kz aT (SQ fun _ bR=>Cd M ?_ ?_))) <;> clear H aT
 ·intro gG a H
  try have p28:=dT gG
  have hk2:k < h.marks.layers.length:=by omega
  obtain ⟨b,o,rfl,hrow⟩:=F4 hy hk2;refine kP H (Kc bR (SQ fun _ cu=>SB (SR fun _ dw=>Ri mq jY M M ?_)));clear H bR;intro a H;refine bQ jY (cs:=[_,_,_,_]) H wn M M (fun j v hj=>H.hp.aI (hrow j v hj)) M ?_;clear H;intro a H;refine dW jY H wn M ?_;clear H;intro b6 a w hb6 H;refine bJ jY 0 (vs:=[_,_,_,_]) H wn M ?_;clear H;intro w H;refine dw _ _ ?_;clear dw;refine kP H (SC (Ro vJ 2 M (bC Q8 aF 0 M M ?_)));clear H;intro a H;refine aas (i:=3) zK mX H wn M M M M ?_;clear H;intro w H;dsimp only [List.set] at H;rw [anm hk2] at H;refine kH H (Kn cu (SC (Rd M (Rm M ?_))));clear H cu;intro a H;refine aD ?_;refine dQ (k+1) (by exact (H.eD (Pl:=[_,_,_,_]) (dK:=[_,_,_]) [1,2,3] Z M).sub ⟨M,M,M,M,aC⟩) ?_
  omega
 intro gG a H
 try have p28:=dF gG
 obtain rfl:k=h.marks.layers.length:=by omega
 rw [uV] at H;refine dY ?_;refine (leave0 H results87 ?_).2;exact H.hp.lW (L':=Dm b3 bm _) (by repeat (first|exact kS _|apply List.Sublist.cons)) M
def Mk (d:gX):List Int:=(kT d.flow).flatMap refs++refs d.fin
def nV (d:gX):List Int:=(uj [] (Mk d)).filter fun q=>decide (q≠0)
theorem azU {G:GH} {b3 bm:Nat} {hs:List dD}:CbU prog (.func (.func 87) #[] #[(aH b3 0)]) G (hs.map II) fun k _ L=>L=Dm b3 bm (uj [] ((hs.take k).flatMap refs)):=by
 rintro k args G1 L w ⟨p,hp,h⟩ hG rfl hO;rw [qD] at hp;obtain ⟨x,hx,rfl⟩:=oO.1 hp;obtain ⟨q1,q2,q3,rfl,hR⟩:=h;obtain ⟨hk,rfl⟩:=jZ.1 hx;refine kD (caps:=[(aH b3 0)]) afZ ((ajQ G1 w b3 bm _ hs[k] q1 q2 q3 hR hO).mono ?_);rintro e w' ⟨v,G',L',rfl,hc,rfl⟩;exact ⟨v,G',_,M,hc,by show Dm b3 bm _=Dm b3 bm (uj [] ((hs.take (k+1)).flatMap refs));rw [jK hk,List.flatMap_append,Qd];simp⟩
theorem aqd (G:GH) (w0:World) (hG:Hold G w0) (D:kN) (d:gX) (hR:pO G D d) (hz:bq d.flow<=4294967296) (hw:∀ k∈nV d,-9223372036854775808<=k∧k < 9223372036854775808) (hl:(nV d).length<=4294967296) :
  Calls prog 38 #[D.val] w0 (bE w0 G fun u G'=>av G' (.sl 1 ((Ao (nV d)).map fun k=>[li k])) u):=by
 refine eN [(0,_)] func38 M ntmps38 M M hG ?_;intro a H;refine cZ (fun _ K1=>?_);refine dZ (cs:=[_,_,_,_,_,_,_,_,_,_,_]) H wn M M M ?_;clear H;intro b1 a w hb1 H;refine kH H (aj K1 M (SQ fun _ K2=>?_));clear H K1;intro a H;obtain ⟨Ga,hma,hb1',HQ⟩:=H.fU;clear H;have H:=HQ;clear HQ;have hga:=fun j v hj=>wu hb1' 0 D.cells M j v hj
 have hgd:∀ j v,[dh D.p,vi d.fin.marks.ins,vi d.fin.marks.move,dh D.d,dh D.y][j]?=some v->aI Ga b1 (1+j)=some v:=fun j v hj=>by rw [<- hR.ins,<- hR.mv] at hj;exact wu hb1' 1 [dh D.p,vi D.ins,vi D.move,dh D.d,dh D.y] M j v hj
 replace hR:=hR.mono hma;refine oQ ?_;refine Jw H wn M ?_;clear H;intro b5 a w hb5 H;refine dW vJ H wn M ?_;clear H;intro b3 a w hb3 H;refine bJ vJ 0 (vs:=[_]) H wn M ?_;clear H;intro w H;refine aD ?_;refine K2 _ _ ?_;clear K2;refine cZ (fun _ K3=>?_);refine vG H wn M M ?_;clear H;intro a H;refine kH H (aj K3 M (SR fun _ K4=>Rf vZ M (Rg jy M (hga 0 _ M) (Rm M ?_))));clear H K3;intro a H;refine gW WY (Li:=[]) (L:=Dm b3 b5 []) H wn M (ahC 4294967297 O _ Ga ((kT d.flow).map II) (fun k _ L=>L=Dm b3 b5 (uj [] (((kT d.flow).take k).flatMap refs))) Ga _ _ 0 d.flow _ (fun _ _ h=>h) azU (fun _ _ _ _ _ h=>h) M (Hp.owns (Li:=[]) H.hp) hR.fl O (fun i a h=>by rw [gZ,qD,h];rfl)) rfl ?_;clear H;rintro v10 GL L10 a w rfl FH H;rw [gZ,uV] at H;dsimp only [List.nil_append] at H;refine K4 _ _ ?_;clear K4;refine kP H (SR fun _ K5=>Rm M (Rf Fp M ?_));clear H;intro a H;refine bQ gB (cs:=[dh D.p,vi d.fin.marks.ins,vi d.fin.marks.move,dh D.d,dh D.y]) H wn M M (fun j v hj=>H.hp.aI (aG FH (hgd j v hj))) M ?_;clear H;intro a H;refine BL (Li:=[]) (L:=Dm b3 b5 _) H wn M M (kD (caps:=[(aH b3 0)]) afZ (ajQ _ _ b3 b5 _ d.fin D.p D.d D.y (hR.hd.mono FH) (Hp.owns (Li:=[]) H.hp))) M ?_;clear H;rintro v14 EN L14 a w rfl Ei H;rw [<- Qd] at H;dsimp only [List.nil_append] at H;refine K5 _ _ ?_;clear K5;refine kP H (SR fun _ K6=>Ro vJ 0 M ?_);clear H;intro a H;refine aBT (i:=1) zK mX (abz List.nodup_nil) H wn M M M ?_;clear H;intro es clock w hst hks H;dsimp only [List.set] at H;refine K6 _ _ ?_;clear K6;refine kP H (SR fun _ K7=>Ro vJ 0 M ?_);clear H;intro a H;refine s_call asW H wn M (azp _ _ H.ro _) M ?_;clear H;rintro v17 AB a w ⟨bx,rfl,hbx⟩ uJ H;refine s_call asV H wn M (aCW _ _ H.ro b5 bx clock es (nV d) hbx (H.hp.own (b5,.map es clock) (by simp)) hst hks hw hl) M ?_;clear H;rintro v18 EO a w Sj hm18 H;exact kH H (aj K7 M (LR results38 M fun H=>H.rt Sj))
theorem Yf {C:aV} {e:Int} {h:dD} (hE:iU C e h=0):∀ q∈refs h,q=0∨q∈C.lq:=by
 have z:=lQ hE;have h3:=z (kI C h.marks) (by simp);have h4:=z (lF (uw C h.marks.bD) h.marks.bD.length) (by simp);have h6:=z (lF (yx C e h.marks.layers) h.marks.layers.length) (by simp);intro q hq
 unfold refs at hq
 rcases gu.1 hq with rfl|hq
 ·unfold kI at h3
  by_cases h0:h.marks.ins=0
  ·exact .inl h0
  refine .inr (Classical.byContradiction fun hn=>?_);rw [ay ⟨h0,hn⟩] at h3;cases h3
 rcases kC.1 hq with hq|hq
 ·obtain ⟨x,hx,rfl⟩:=List.mem_map.1 hq;obtain ⟨k,hk,rfl⟩:=List.getElem_of_mem hx;have h5:=Cm h4 k hk
  unfold uw at h5
  rw [eB hk] at h5;dsimp only [uZ] at h5;refine .inr (Classical.byContradiction fun hn=>?_);rw [ay hn] at h5;cases h5
 obtain ⟨x,hx,rfl⟩:=List.mem_map.1 hq;obtain ⟨k,hk,rfl⟩:=List.getElem_of_mem hx;have h5:=Cm h6 k hk
 unfold yx at h5
 rw [eB hk] at h5;dsimp only [BA] at h5;refine .inr (Classical.byContradiction fun hn=>?_);rw [ay hn] at h5;cases h5
def qQ (C:aV) (L:List dD):Prop:=∀ h∈L,∃ e,iU C e h=0
theorem qQ.nil (C:aV):qQ C []:=fun _ h=>by cases h
theorem qQ.cons {C:aV} {e:Int} {h:dD} {L:List dD} (h1:iU C e h=0) (h2:qQ C L):qQ C (h :: L):=fun x hx=>by
 rcases gu.1 hx with rfl|hx
 ·exact ⟨e,h1⟩
 exact h2 x hx
theorem qQ.app {C:aV} {A B:List dD} (h1:qQ C A) (h2:qQ C B):qQ C (A++B):=fun x hx=>(kC.1 hx).elim (h1 x) (h2 x)
mutual
theorem awW (C:aV) (body note:Bool) (t:Int):∀ (x:ak) (s s':CS),fO C body note t x s=(0,s')->qQ C (Bp x)
 | .mk k c i tx h f r,s,s',e=>by
  have hf:=R8 C false true t f;have hr:=aia C note (t+1) r;rw [fO] at e;(iterate 2 obtain ⟨-,e⟩:=og e);obtain ⟨e1,e⟩:=og e;rw [Bp];refine qQ.cons e1 ?_
  by_cases h6:k=6
  ·exact acV
  rw [au h6] at e |-;rw [jA]
  by_cases h7:k=7
  ·rw [ay h7] at e |-;exact hr _ _ (aac e).2
  rw [au h7];exact qQ.nil C
theorem R8 (C:aV) (body note:Bool) (t:Int):∀ (l:List ak) (s s':CS),kr C body note t l s=(0,s')->qQ C (kT l)
 | [],_,_,_=>by rw [kT];exact qQ.nil C
 | x :: r,s,s',e=>by
  rw [kr] at e;obtain ⟨e1,e⟩:=og e;rw [kT];exact (awW C body note t x s _ (Prod.ext e1 M)).app (R8 C body note t r _ _ e)
theorem awX (C:aV) (note:Bool) (t:Int):∀ (x:aO) (s s':CS),Al C note t x s=(0,s')->qQ C (FC x)
 | .mk h cs,s,s',e=>by
  have hc:=ahZ C note t cs;rw [Al] at e;obtain ⟨e1,e⟩:=og e;rw [FC];exact qQ.cons (lQ e1 _ dV) (hc _ _ e)
theorem aia (C:aV) (note:Bool) (t:Int):∀ (l:List aO) (s s':CS),jm C note t l s=(0,s')->qQ C (ql l)
 | [],_,_,_=>by rw [ql];exact qQ.nil C
 | x :: r,s,s',e=>by
  rw [jm] at e;obtain ⟨e1,e⟩:=og e;rw [ql];exact (awX C note t x s _ (Prod.ext e1 M)).app (aia C note t r _ _ e)
theorem awV (C:aV) (note:Bool) (t:Int):∀ (x:aQ) (s s':CS),cellC C note t x s=(0,s')->qQ C (Fz x)
 | .mk i h f,s,s',e=>by
  have hf:=R8 C false note t f;rw [cellC] at e;obtain ⟨-,e⟩:=og e;obtain ⟨e1,e⟩:=og e;rw [Fz];exact qQ.cons e1 (hf _ _ e)
theorem ahZ (C:aV) (note:Bool) (t:Int):∀ (l:List aQ) (s s':CS),rV C note t l s=(0,s')->qQ C (ru l)
 | [],_,_,_=>by rw [ru];exact qQ.nil C
 | x :: r,s,s',e=>by
  rw [rV] at e;obtain ⟨e1,e⟩:=og e;rw [ru];exact (awV C note t x s _ (Prod.ext e1 M)).app (ahZ C note t r _ _ e)
end
theorem Tn {d:gX} (hc:iQ d=0):∀ q∈Mk d,q=0∨q∈d.revs.map cB.id:=by
 have z:=lQ hc;have h2:=z (eG [iU d.jT 3 d.fin,dH (vD d.fin.marks) 21]) (by simp);have h3:=z (kr d.jT true false 0 d.flow ⟨0,[]⟩).1 (by simp);have hi:=R8 d.jT true false 0 d.flow _ _ (QM h3);intro q hq
 unfold Mk at hq
 rcases kC.1 hq with hq|hq
 ·obtain ⟨h,hh,hq⟩:=List.mem_flatMap.1 hq;obtain ⟨e,he⟩:=hi h hh;exact Yf he q hq
 exact Yf (lQ h2 _ dV) q hq
theorem akr {d:gX} (hc:iQ d=0):(d.revs.map cB.id).Pairwise (· < ·)∧∀ q∈d.revs.map cB.id,1<=q∧q<=1073741824:=by
 have h:=lQ (lQ hc _ dV) (DL d.revs) (by simp);have h1:=lQ h _ (dV);have h2:=lQ h _ (gI _ dV)
 have hl:d.revs.length<=256:=by
  unfold dH at h1
  by_cases hd:256 < (d.revs.length:Int)
  ·rw [ay (aJ hd)] at h1;cases h1
  omega
 have hi:∀ i (hi:i < d.revs.length),1<=d.revs[i].id∧d.revs[i].id<=1073741824∧(∀ k (hk:k < d.revs.length),k+1=i->d.revs[k].id < d.revs[i].id):=by
  intro i hi;have h3:=Cm h2 i O
  unfold Db at h3
  rw [eB hi] at h3;have h4:=Sq (lQ h3 _ dV);rw [eB hi] at h4;refine ⟨h4.1,h4.2.1,fun k hk e=>?_⟩;subst e;have h5:=h4.2.2 O;rw [Nat.add_sub_cancel,eB hk] at h5;exact h5
 refine ⟨List.pairwise_iff_getElem.2 ?_,fun q hq=>?_⟩
 ·intro i j hi' hj hij;rw [bK] at hi' hj;rw [List.getElem_map,List.getElem_map]
  induction j with
  | zero=>omega
  | succ j ih =>
   have h1:=(hi (j+1) hj).2.2 j O M
   by_cases e:i=j
   ·subst e;exact h1
   exact Int.lt_trans (ih O O O) h1
 obtain ⟨x,hx,rfl⟩:=List.mem_map.1 hq;obtain ⟨k,hk,rfl⟩:=List.getElem_of_mem hx;exact ⟨(hi k hk).1,(hi k hk).2.1⟩
theorem aDI {d:gX} (hc:iQ d=0) {q:Int} (h:q∈nV d):1<=q∧q<=1073741824:=by
 unfold nV at h
 rw [List.mem_filter,lD,Qe] at h;obtain ⟨h1|h1,h2⟩:=h
 ·cases h1
 exact (akr hc).2 q ((Tn hc q h1).resolve_left h2)
theorem aDH {d:gX} (hc:iQ d=0):(nV d).length<=d.revs.length:=by
 obtain ⟨hi,-⟩:=akr hc
 have hnd:(d.revs.map cB.id).Nodup:=hi.imp fun h=>by omega
 have hu:(nV d).Nodup:=(abz List.nodup_nil).sublist List.filter_sublist
 have hp:=(List.perm_ext_iff_of_nodup (hnd.sublist (List.filter_sublist (p:=fun q=>decide (q∈nV d)))) hu).2 fun q=>by
  rw [List.mem_filter,lD];refine ⟨fun h=>h.2,fun h=>⟨?_,h⟩⟩;have h1:=h
  unfold nV at h1
  rw [List.mem_filter,lD,Qe] at h1;obtain ⟨h2|h2,h3⟩:=h1
  ·cases h2
  exact (Tn hc q h2).resolve_left h3
 rw [<- hp.length_eq];exact Nat.le_trans (List.length_filter_le _ _) (by rw [bK];exact dS _)
theorem aqv:aR 113:=aS func113 M
theorem OY (G:GH) (x:cB):aX G x.dat x.cells:=by
 simp only [cB.dat,cB.cells,aX]
 exact abY
def pV (l:List cB):List ah:=(l.map cB.cells).flatten
theorem TJ:∀ l:List cB,(pV l).length=l.length*3
 | []=>rfl
 | p :: l=>by
  have:=TJ l
  simp only [pV,dO,List.flatten_cons,gF] at this |-
  rw [this,show p.cells.length=3 from rfl,kR];omega
theorem aan:∀ {l:List cB} {k:Nat} (h:k < l.length) (j:Nat),j < 3->(pV l)[k*3+j]?=l[k].cells[j]?
 | p :: l,0,_,j,hj=>by
  simp only [pV,dO,List.flatten_cons,Nat.zero_mul,gZ,List.getElem_cons_zero]
  rw [yO (by rw [show p.cells.length=3 from rfl];exact hj)]
 | p :: l,k+1,h,j,hj=>by
  have ih:=aan (l:=l) (k:=k) (by simpa using h) j hj
  simp only [pV,dO,List.flatten_cons,List.getElem_cons_succ] at ih |-
  rw [um (by rw [show p.cells.length=3 from rfl];omega),show p.cells.length=3 from rfl,show (k+1)*3+j - 3=k*3+j by omega];exact ih
theorem aam (l m:List cB):pV (l++m)=pV l++pV m:=by simp [pV]
theorem aBl {w0 w:World} {F:Nat->Prop} {G0 G:GH} {L Lo:OL} {e c n:Nat} {A:Option Addr} {l:List cB} (h:bY e 3 (.slice A n c) n (pV l) Lo) (hn:n=l.length) (H:Hp w0 F G0 G L w) (hsub:∀ x∈Lo,x∈L) {k:Nat} (hk:k < l.length) :
  ∃ b,A=some ⟨b,0,none⟩∧∀ j u,[vi l[k].id,.string l[k].author,vi l[k].time][j]?=some u->w.cell? ⟨b,0+k*3+j,none⟩=some u:=by
 rcases h.2 with ⟨_,h0,_⟩|⟨b,cap,cur,he,hl,h1,h2,h3,h4⟩
 ·omega
 injection he with e1 e2 e3
 refine ⟨b,e1,fun j u hu=>?_⟩
 have hj:j < 3:=by have:=(jZ.1 hu).1;simpa using this
 refine H.BF (c:=cur) (e:=e) (fz:=(0,0)) (hsub _ (by rw [hl];exact List.mem_singleton_self _)) ?_;have h5:=aan hk j hj;rw [<- h4,uS,jl,Array.getElem?_toList] at h5;rw [show 0+k*3+j=k*3+j by omega,h5];exact hu
theorem acz {p:Prop} (h:p:=by
 first
  | exact H.hp.gQ ⟨M,by rw [OG hk2 hno h16];rfl⟩
  | exact H.hp.gQ ⟨M,by rw [show l.take k=l from nZ O] at hno;rw [hno];rfl⟩):p:=h
theorem ayq {G:GH} {w0:World} {Lo:OL} {v fv:ah} (l:List cB) (p:cB->Bool) (hO:gq G Lo w0) (hrw:bY 102 3 v l.length (pV l) Lo) (hf:∀ x∈l,qW fv G x.dat (p x)) :
  Calls prog 113 #[v,fv] w0 (fM w0 G Lo fun u G' L'=>L'=Lo∧u=vi (pz (l.findIdx? p))):=by
 obtain ⟨A,c,rfl,hc1,hc2⟩:=hrw.shape;have hml:maxLen=9223372036854775807:=rfl;refine jc (N:=19) (T:=[(0,_),(1,_)]) func113 M ntmps113 M M hO ?_;intro a H;refine kP H (SR fun _ K1=>aj K1 M (SQ fun _ K2=>SR fun _ K3=>Rm M (Rl qP M (Rm M (Kz K3 (SB ?_))))));clear H K1 K3;intro a H;skip;refine fD (ι:=Nat × GH) (Tc:=[(0,_),(1,_),(7,_)]) (Lc:=[]) (fun gh=>[(8,vi gh.1)]) (fun gh=>[]++Lo) (fun gh=>gh.2) (fun gh=>gh.1<=l.length∧(l.take gh.1).findIdx? p=none∧(∀ b o,G b=some o->gh.2 b=some o)) (fun gh=>l.length - gh.1) ((0,G)) (by exact H.sub ⟨M,M,M,M,aC⟩) ?_ ?_
 ·exact zV
 clear H;rintro ⟨k,g⟩ a w hI H;dsimp only at hI H;obtain ⟨hk,hno,hgm⟩:=hI;dsimp only [lca,bM] at H;refine kP H (SR fun _ K4=>Rc M (Kz K4 (SQ fun _ K5=>Cd M ?_ ?_))) <;> clear H K4
 ·intro h9 a H
  try have p9:=dT h9
  have hk2:k < l.length:=by omega
  obtain ⟨b,rfl,hrow⟩:=aBl hrw M H.hp (fun x hx=>by first|exact hx|exact gI _ hx|simpa using hx) hk2;refine kP H (Kc K5 (SQ fun _ K6=>SB (SR fun _ K7=>Rm M (aj K7 M (SR fun _ K8=>Rm M (Rm M (Rm M (Ri qP qp M M ?_))))))));clear H K5 K7;intro a H;refine bQ qp (cs:=[vi l[k].id,.string l[k].author,vi l[k].time]) H wn M M hrow M ?_;clear H;intro a H;refine lI H wn M M (hf _ (jS hk2) _ _ _ hgm H.ro (OY _ l[k])) M ?_;clear H;rintro v16 vQ a w rfl uH H;refine K8 _ _ ?_;clear K8;refine jL H M ?_ ?_
  ·intro h16
   try have p16:=dT h16
   refine kP H (SR fun _ K9=>Rm M (aj K9 M ?_));clear H K9;intro a H;refine lr H results113 M ?_
   exact acz
  intro h16
  try have p16:=dF h16
  refine kP H (Kc K6 (SC (Rd M (Rm M ?_))));clear H K6;intro a H;refine aD ?_;refine dQ ((k+1,vQ)) (by exact H.sub ⟨M,M,M,M,aC⟩) ?_
  (try dsimp only);exact abR
 intro h9 a H
 try have p9:=dF h9
 refine dY ?_;refine K2 _ _ ?_;clear K2;refine kP H (SR fun _ aT=>aj aT M ?_);clear H aT;intro a H;refine lr H results113 M ?_
 exact acz
theorem aA9 {G:GH} {l:List cB} {xs:List ah} (h:dx G 3 (l.map cB.dat) xs):xs=pV l:=by
 obtain ⟨css,rfl,h2,h3⟩:=h;rw [bK] at h2
 have e:css=l.map cB.cells:=by
  apply List.ext_getElem?
  intro j;rw [qD]
  by_cases hj:j < l.length
  ·have h4:=(h3 j l[j].dat css[j] (by simp [hj]) (eB O)).1;rw [eB hj,eB O,aap h4];rfl
  rw [List.getElem?_eq_none O,List.getElem?_eq_none O];rfl
 rw [e];rfl
theorem aAW {l:List cB} {p:cB->Bool} {i:Nat} (h:l.findIdx? p=some i):∃ hi:i < l.length,(l.take (i+1)).filter (fun x=>!p x)=l.take i:=by
 obtain ⟨hi,h1,h2⟩:=List.findIdx?_eq_some_iff_getElem.1 h;refine ⟨hi,?_⟩;rw [jK hi,List.filter_append,List.filter_eq_self.2]
 ·simp [h1]
 intro x hx;obtain ⟨j,hj,rfl⟩:=List.getElem_of_mem hx;rw [List.getElem_take]
 have hj2:j < i:=by rw [List.length_take] at hj;omega
 have:=h2 j hj2
 simpa using this
theorem aAX {l:List cB} {p:cB->Bool} (h:l.findIdx? p=none):l.filter (fun x=>!p x)=l:=by
 rw [List.findIdx?_eq_none_iff] at h
 exact List.filter_eq_self.2 fun x hx=>by rw [h x hx];rfl
theorem aAY {cl:List ah} {i:Nat} {x y z:ah} (h:i*3+3<=cl.length):(setRow cl (0+i*3) [x,y,z]).length=cl.length∧(setRow cl (0+i*3) [x,y,z]).take ((i+1)*3)=cl.take (i*3)++[x,y,z]∧∀ m,(i+1)*3<=m->(setRow cl (0+i*3) [x,y,z])[m]?=cl[m]?:=by
 have e:setRow cl (0+i*3) [x,y,z]=cl.take (i*3)++[x,y,z]++cl.drop (i*3+3):=by
  rw [gZ,TR _ _ _ (by simpa using h)];rfl
 have hl:(cl.take (i*3)++[x,y,z]).length=(i+1)*3:=by rw [gF,List.length_take];simp;omega
 refine ⟨aax ..,?_,fun m hm=>?_⟩
 ·rw [e,<- hl,List.take_left]
 rw [e,um O,hl,List.getElem?_drop];congr 1;omega
theorem aAV {l:List cB} {cl:List ah} {i:Nat} (hi:i < l.length) (h:cl.take (l.length*3)=pV l):cl.take (i*3)=pV (l.take i):=by
 have e:cl.take (i*3)=(cl.take (l.length*3)).take (i*3):=by rw [List.take_take,Nat.min_eq_left O]
 have h2:pV l=pV (l.take i)++pV (l.drop i):=by rw [<- aam,List.take_append_drop]
 have h3:(pV (l.take i)).length=i*3:=by rw [TJ,List.length_take];omega
 rw [e,h,h2,<- h3,List.take_left]
theorem aAZ {l:List cB} {p:cB->Bool} {j:Nat} (hj:j < l.length):(l.take (j+1)).filter (fun x=>!p x)=(l.take j).filter (fun x=>!p x)++if p l[j] then [] else [l[j]]:=by
 rw [jK hj,List.filter_append]
 cases h:p l[j] <;> simp [h]
set_option maxHeartbeats 1000000 in
theorem apY {G:GH} {w0:World} {Lo:OL} {v fv:ah} (l:List cB) (p:cB->Bool) (hO:gq G Lo w0) (hrw:bY 102 3 v l.length (pV l) Lo) (hf:∀ x∈l,qW fv G x.dat (p x)) :
  Calls prog 59 #[v,fv] w0 (fM w0 G Lo fun u G' L'=>bY 102 3 u (l.filter fun x=>!p x).length (pV (l.filter fun x=>!p x)) L'):=by
 obtain ⟨A,c,rfl,hc1,hc2⟩:=hrw.shape;have hml:maxLen=9223372036854775807:=rfl;have hdl:=TJ l;refine jc (N:=42) (T:=[(0,_),(1,_)]) func59 M ntmps59 M M hO ?_;intro a H;refine kP H (SR fun _ K1=>aj K1 M (SR fun _ K2=>Rm M (Rm M ?_)));clear H K1;intro a H;refine gW aqv (Li:=[]) (L:=Lo) H wn M (ayq l p (Hp.owns (Li:=[]) H.hp) hrw hf) M ?_;clear H;rintro v10 GL L10 a w ⟨rfl,rfl⟩ FH H;dsimp only [List.nil_append] at H;obtain ⟨o,ho⟩:∃ o,o=l.findIdx? p:=⟨_,M⟩;rw [<- ho] at H;refine kH H (aj K2 M (SQ fun _ K3=>SR fun _ K4=>Rm M (Rc M (Kz K4 (Cd M ?_ ?_))))) <;> clear H K2 K4
 ·intro h12 a H
  try have rM:=dT h12
  obtain rfl:o=none:=by cases o with|none=>rfl|some i=>first|(simp [pz] at rM;done)|(simp [pz] at rM;omega)
  exact kP H (SR fun _ K5=>Rm M (aj K5 M (LR results59 M fun H=>H.hp.gQ (by rw [aAX ho.symm];exact hrw))))
 intro h12 a H
 try have rM:=dF h12
 obtain ⟨i0,rfl⟩:∃ i,o=some i:=by cases o with|none=>simp [pz] at rM|some i=>exact ⟨i,M⟩
 obtain ⟨hi0,hinit⟩:=aAW ho.symm
 rcases hrw.2 with ⟨_,h0,_⟩|⟨b,cap,cur,he,rfl,hcap1,hcap2,hsz,htk⟩
 ·omega
 injection he with e1 e2 e3
 subst e1;subst e3;obtain ⟨cl0,rfl⟩:∃ cl:List ah,cur=cl.toArray:=⟨cur.toList,by simp⟩;rw [List.size_toArray] at hsz;dsimp only [pz] at H;refine kP H (Kc K3 (SQ fun _ K6=>SR fun _ K7=>Rm M (Rd M (aj K7 M (SB ?_)))));clear H K3 K7;intro a H;skip;refine fD (ι:=Nat × Nat × List ah × GH) (Tc:=[(0,_),(1,_)]) (Lc:=[]) (fun gh=>[(5,vi gh.2.1),(6,vi gh.1)]) (fun gh=>[(b,.cells gh.2.2.1.toArray 102 (0,0))]) (fun gh=>gh.2.2.2) (fun gh=>gh.2.1 < gh.1∧gh.1<=l.length∧gh.2.2.1.length=c*3∧gh.2.1=((l.take gh.1).filter fun x=>!p x).length∧gh.2.2.1.take (gh.2.1*3)=pV ((l.take gh.1).filter fun x=>!p x)∧(∀ m,gh.1*3<=m->m < l.length*3->gh.2.2.1[m]?=(pV l)[m]?)∧(∀ b o,G b=some o->gh.2.2.2 b=some o)) (fun gh=>l.length - gh.1) ((i0+1,i0,cl0,GL)) (by exact H.sub ⟨M,M,M,M,aC⟩) ?_ ?_
 ·exact ⟨Nat.lt_succ_self _,hi0,hsz,by rw [hinit,List.length_take];exact (Nat.min_eq_left (Nat.le_of_lt hi0)).symm,by rw [hinit];exact aAV hi0 htk,fun m h1 h2=>by rw [<- htk,uS,ay h2],FH⟩
 clear H;rintro ⟨j,i,cl,g⟩ a w hI H;dsimp only at hI H;obtain ⟨hij,hj,hcl,hil,hkept,hrest,hgm⟩:=hI;dsimp only [lca,bM] at H;refine kP H (SQ fun _ K8=>SR fun _ K9=>Rm M (Rm M (Rl qP M (Rc M (Kz K9 (Cd M ?_ ?_)))))) <;> clear H K9
 ·intro h19 a H
  try have tX:=dT h19
  have hj2:j < l.length:=by omega
  have hjc:∀ q u,[vi l[j].id,.string l[j].author,vi l[j].time][q]?=some u->cl.toArray[0+j*3+q]?=some u:=fun q u hq=>by
   have hq2:q < 3:=by have:=(jZ.1 hq).1;simpa using this
   rw [List.getElem?_toArray,gZ,hrest _ O O,aan hj2 q hq2];exact hq
  have hdt:=aAZ (p:=p) hj2;refine kP H (Kc K8 (SQ fun _ aT=>SB (SR fun _ bR=>Rm M (Rm M (Ri qP qp M M ?_)))));clear H K8;intro a H;refine bQ qp (cs:=[vi l[j].id,.string l[j].author,vi l[j].time]) H wn M M (fun q u hq=>H.hp.BF (c:=cl.toArray) dV (hjc q u hq)) M ?_;clear H;intro a H;refine dW qp H wn M ?_;clear H;intro b7 a w CB H;refine bJ qp 0 (vs:=[_,_,_]) H wn M ?_;clear H;intro w H;refine bR _ _ ?_;clear bR;refine kP H (SR fun _ cu=>Rm M ?_);clear H;intro a H;refine bQ qp (cs:=[_,_,_]) H wn M M (H.hp.dG 0 M M) M ?_;clear H;intro a H;refine lI H wn M M (hf _ (jS hj2) _ _ _ hgm H.ro (OY _ l[j])) M ?_;clear H;rintro v28 MK a w rfl Em H;refine kH H (Rn M (Kz cu (Cd M ?_ ?_))) <;> clear H cu
  ·intro iE a H
   try have p29:=dT iE
   rw [au (by simpa using iE)] at hdt;have hds:=aAY (cl:=cl) (i:=i) (x:=vi l[j].id) (y:=.string l[j].author) (z:=vi l[j].time) O;refine kP H (SR fun _ dw=>Rm M (Rm M ?_));clear H;intro a H;refine bQ qp (cs:=[_,_,_]) H wn M M (H.hp.dG 0 M M) M ?_;clear H;intro a H;refine kH H (Ri qP qp M M ?_);clear H;intro a H;refine Mt qp 1 (c:=cl) (vs:=[vi l[j].id,.string l[j].author,vi l[j].time]) _ H wn M M M M M M (Nat.ble_eq_true_of_le (by simp only [kR,List.length_nil];omega)) rfl ?_;clear H;intro w H;dsimp only [List.set] at H;refine dw _ _ ?_;clear dw;refine kP H (SC (Rm M (Rd M (bF aT M (SC (Rm M (Rd M (Ra M ?_))))))));clear H aT;intro a H;refine aD ?_;refine dQ ((j+1,i+1,setRow cl (0+i*3) [vi l[j].id,.string l[j].author,vi l[j].time],MK)) (by exact (H.eD (Pl:=[_,_]) (dK:=[_]) [1] Z M).sub ⟨M,M,M,M,aC⟩) ?_
   (try dsimp only);exact ⟨O,O,by rw [hds.1,hcl],by rw [hdt,gF,<- hil];rfl,by rw [hdt,aam,<- hkept,hds.2.1];rfl,fun m h1 h2=>by rw [hds.2.2 m O,hrest m O h2],fun b o h=>Em b o (hgm b o h)⟩
  intro iE a H
  try have p29:=dF iE
  rw [ay (by simpa using iE),fG] at hdt;refine kP H (Kc aT (SC (Rm M (Rd M (Ra M ?_)))));clear H aT;intro a H;refine aD ?_;refine dQ ((j+1,i,cl,MK)) (by exact (H.eD (Pl:=[_,_]) (dK:=[_]) [1] Z M).sub ⟨M,M,M,M,aC⟩) ?_
  (try dsimp only);exact ⟨O,O,hcl,by rw [hdt];exact hil,by rw [hdt];exact hkept,fun m h1 h2=>hrest m O h2,fun b o h=>Em b o (hgm b o h)⟩
 intro h19 a H
 try have tX:=dF h19
 refine dY ?_;refine K6 _ _ ?_;clear K6;refine kP H (SR fun _ dB=>Rm M (Rm M ?_));clear H;intro a H;refine Di qP qp i H wn M M M O M ?_;clear H;intro a H;rw [bU,uT,add_lit] at H;refine akQ qP qp M M 0 H wn M M O O ?_;clear H;intro cz w hz1 hz2 H;dsimp only [List.set] at H;refine dB _ _ ?_;clear dB;refine kP H (SR fun _ dX=>Rm M (Rm M ?_));clear H;intro a H;refine Jz qP qp i H wn M M M O M ?_;clear H;intro a H;refine kH H (aj dX M ?_);clear H dX;intro a H;refine lr H results59 M ?_
 obtain rfl:j=l.length:=by omega
 rw [uV] at hil hkept;exact H.hp.gQ ⟨TJ _,.inr ⟨b,c,cz.toArray,by rw [<- hil],M,O,hcap2,by rw [List.size_toArray,hz1,hcl],by rw [<- hkept,<- hil];rw [gZ] at hz2;exact hz2⟩⟩
theorem anX {p:Prop} (h:p:=by
 exact H.hp.gQ ⟨[],bY.nil,dx.nil⟩):p:=h
theorem Ki {p:Prop} (h:p:=by
 exact H.hp.gQ ⟨[],bY.empty,dx.nil⟩):p:=h
theorem Km {p:Prop} (h:p:=by
 have hr0:=hnil (by simpa using h4);subst hr0;exact anX):p:=h
theorem aeJ (G:GH) (w0:World) (hO:gq G [] w0) (rows:List (List Dat)) (A:Option Addr) (n c:Nat) (hv:av G (.sl 3 rows) (.slice A n c)) (hz:rows.length<=4294967296) :
  Calls prog 60 #[.slice A n c] w0 (fM w0 G [] fun u G' L'=>∃ xs,bY 102 3 u rows.length xs L'∧dx G' 3 rows xs):=by
 obtain ⟨hn,hc1,hc2,hnil,hx⟩:=hv.cells;refine jc (N:=8) (T:=[(0,_)]) func60 M ntmps60 M M hO ?_;intro a H;refine kP H (SR fun _ K1=>aj K1 M (SQ fun _ K2=>SR fun _ K3=>Rm M ?_));clear H K1;intro a H;refine Dg qP H wn M M ?_;clear H;intro a H;refine K3 _ _ ?_;clear K3;refine jL H M ?_ ?_
 ·intro h4
  refine kP H (SR fun _ K4=>aj K4 M ?_);clear H K4;intro a H;refine lr H results60 M ?_;exact Km
 intro h4
 try have p4:=dF h4
 refine iD ?_;refine K2 _ _ ?_;clear K2;refine bL (fun _ K5=>?_)
 have hA:¬ A=none:=by intro e;rw [e] at h4;cases h4
 refine oQ ?_;refine Dc qP qp H wn M ?_;clear H;intro b5 a w hb5 H;refine kH H (Rm M ?_);clear H;intro a H
 by_cases hr0:rows=[]
 ·have hn0:n=0:=by rw [hn,hr0];rfl
  subst hn0;refine BK qP qp H wn M M (dS _) M ?_;clear H;intro a H;refine kH H (bF K5 M ?_);clear H K5;intro a H;refine lr H results60 M ?_;subst hr0;exact Ki
 obtain ⟨b,o,xs,rfl,hxl,hxc,hx1,fu⟩:=hx hr0;refine ny (Li:=[]) (Lo:=[_]) (news:=xs) qP qp M M H wn M M bY.empty hxl (fun j u hj=>H.hp.aI (hxc j u hj)) hx1 O O M ?_;clear H;intro v7 Lo a w hrow H;dsimp only [List.nil_append] at H;exact kH H (bF K5 M (LR results60 M fun H=>H.hp.gQ ⟨_,by rw [gZ,hn] at hrow;exact hrow,fu⟩))
theorem apu (G:GH) (w0:World) (hO:gq G [] w0) (rows:List (List Dat)) (A:Option Addr) (n c:Nat) (hv:av G (.sl 6 rows) (.slice A n c)) (hz:rows.length<=4294967296) :
  Calls prog 175 #[.slice A n c] w0 (fM w0 G [] fun u G' L'=>∃ xs,bY 192 6 u rows.length xs L'∧dx G' 6 rows xs):=by
 obtain ⟨hn,hc1,hc2,hnil,hx⟩:=hv.cells;refine jc (N:=8) (T:=[(0,_)]) func175 M ntmps175 M M hO ?_;intro a H;refine kP H (SR fun _ K1=>aj K1 M (SQ fun _ K2=>SR fun _ K3=>Rm M ?_));clear H K1;intro a H;refine Dg nE H wn M M ?_;clear H;intro a H;refine K3 _ _ ?_;clear K3;refine jL H M ?_ ?_
 ·intro h4
  refine kP H (SR fun _ K4=>aj K4 M ?_);clear H K4;intro a H;refine lr H results175 M ?_;exact Km
 intro h4
 try have p4:=dF h4
 refine iD ?_;refine K2 _ _ ?_;clear K2;refine bL (fun _ K5=>?_)
 have hA:¬ A=none:=by intro e;rw [e] at h4;cases h4
 refine oQ ?_;refine Dc nE lM H wn M ?_;clear H;intro b5 a w hb5 H;refine kH H (Rm M ?_);clear H;intro a H
 by_cases hr0:rows=[]
 ·have hn0:n=0:=by rw [hn,hr0];rfl
  subst hn0;refine BK nE lM H wn M M (dS _) M ?_;clear H;intro a H;refine kH H (bF K5 M ?_);clear H K5;intro a H;refine lr H results175 M ?_;subst hr0;exact Ki
 obtain ⟨b,o,xs,rfl,hxl,hxc,hx1,fu⟩:=hx hr0;refine ny (Li:=[]) (Lo:=[_]) (news:=xs) nE lM M M H wn M M bY.empty hxl (fun j u hj=>H.hp.aI (hxc j u hj)) hx1 O O M ?_;clear H;intro v7 Lo a w hrow H;dsimp only [List.nil_append] at H;exact kH H (bF K5 M (LR results175 M fun H=>H.hp.gQ ⟨_,by rw [gZ,hn] at hrow;exact hrow,fu⟩))
theorem apt (G:GH) (w0:World) (hO:gq G [] w0) (rows:List (List Dat)) (A:Option Addr) (n c:Nat) (hv:av G (.sl 2 rows) (.slice A n c)) (hz:rows.length<=4294967296) :
  Calls prog 176 #[.slice A n c] w0 (fM w0 G [] fun u G' L'=>∃ xs,bY 93 2 u rows.length xs L'∧dx G' 2 rows xs):=by
 obtain ⟨hn,hc1,hc2,hnil,hx⟩:=hv.cells;refine jc (N:=8) (T:=[(0,_)]) func176 M ntmps176 M M hO ?_;intro a H;refine kP H (SR fun _ K1=>aj K1 M (SQ fun _ K2=>SR fun _ K3=>Rm M ?_));clear H K1;intro a H;refine Dg yK H wn M M ?_;clear H;intro a H;refine K3 _ _ ?_;clear K3;refine jL H M ?_ ?_
 ·intro h4
  refine kP H (SR fun _ K4=>aj K4 M ?_);clear H K4;intro a H;refine lr H results176 M ?_;exact Km
 intro h4
 try have p4:=dF h4
 refine iD ?_;refine K2 _ _ ?_;clear K2;refine bL (fun _ K5=>?_)
 have hA:¬ A=none:=by intro e;rw [e] at h4;cases h4
 refine oQ ?_;refine Dc yK BS H wn M ?_;clear H;intro b5 a w hb5 H;refine kH H (Rm M ?_);clear H;intro a H
 by_cases hr0:rows=[]
 ·have hn0:n=0:=by rw [hn,hr0];rfl
  subst hn0;refine BK yK BS H wn M M (dS _) M ?_;clear H;intro a H;refine kH H (bF K5 M ?_);clear H K5;intro a H;refine lr H results176 M ?_;subst hr0;exact Ki
 obtain ⟨b,o,xs,rfl,hxl,hxc,hx1,fu⟩:=hx hr0;refine ny (Li:=[]) (Lo:=[_]) (news:=xs) yK BS M M H wn M M bY.empty hxl (fun j u hj=>H.hp.aI (hxc j u hj)) hx1 O O M ?_;clear H;intro v7 Lo a w hrow H;dsimp only [List.nil_append] at H;exact kH H (bF K5 M (LR results176 M fun H=>H.hp.gQ ⟨_,by rw [gZ,hn] at hrow;exact hrow,fu⟩))
theorem apr (G:GH) (w0:World) (hO:gq G [] w0) (rows:List (List Dat)) (A:Option Addr) (n c:Nat) (hv:av G (.sl 6 rows) (.slice A n c)) (hz:rows.length<=4294967296) :
  Calls prog 177 #[.slice A n c] w0 (fM w0 G [] fun u G' L'=>∃ xs,bY 107 6 u rows.length xs L'∧dx G' 6 rows xs):=by
 obtain ⟨hn,hc1,hc2,hnil,hx⟩:=hv.cells;refine jc (N:=8) (T:=[(0,_)]) func177 M ntmps177 M M hO ?_;intro a H;refine kP H (SR fun _ K1=>aj K1 M (SQ fun _ K2=>SR fun _ K3=>Rm M ?_));clear H K1;intro a H;refine Dg Au H wn M M ?_;clear H;intro a H;refine K3 _ _ ?_;clear K3;refine jL H M ?_ ?_
 ·intro h4
  refine kP H (SR fun _ K4=>aj K4 M ?_);clear H K4;intro a H;refine lr H results177 M ?_;exact Km
 intro h4
 try have p4:=dF h4
 refine iD ?_;refine K2 _ _ ?_;clear K2;refine bL (fun _ K5=>?_)
 have hA:¬ A=none:=by intro e;rw [e] at h4;cases h4
 refine oQ ?_;refine Dc Au BO H wn M ?_;clear H;intro b5 a w hb5 H;refine kH H (Rm M ?_);clear H;intro a H
 by_cases hr0:rows=[]
 ·have hn0:n=0:=by rw [hn,hr0];rfl
  subst hn0;refine BK Au BO H wn M M (dS _) M ?_;clear H;intro a H;refine kH H (bF K5 M ?_);clear H K5;intro a H;refine lr H results177 M ?_;subst hr0;exact Ki
 obtain ⟨b,o,xs,rfl,hxl,hxc,hx1,fu⟩:=hx hr0;refine ny (Li:=[]) (Lo:=[_]) (news:=xs) Au BO M M H wn M M bY.empty hxl (fun j u hj=>H.hp.aI (hxc j u hj)) hx1 O O M ?_;clear H;intro v7 Lo a w hrow H;dsimp only [List.nil_append] at H;exact kH H (bF K5 M (LR results177 M fun H=>H.hp.gQ ⟨_,by rw [gZ,hn] at hrow;exact hrow,fu⟩))
theorem apl (G:GH) (w0:World) (hG:Hold G w0) (rows:List (List Dat)) (A:Option Addr) (n c:Nat) (hv:av G (.sl 6 rows) (.slice A n c)) (hz:rows.length<=4294967296) :
  Calls prog 177 #[.slice A n c] w0 (bE w0 G fun u G'=>av G' (.sl 6 rows) u):=Kw hG (apr G w0 (zD hG) rows A n c hv hz) M
theorem apv (G:GH) (w0:World) (hO:gq G [] w0) (rows:List (List Dat)) (A:Option Addr) (n c:Nat) (hv:av G (.sl 2 rows) (.slice A n c)) (hz:rows.length<=4294967296) :
  Calls prog 178 #[.slice A n c] w0 (fM w0 G [] fun u G' L'=>∃ xs,bY 110 2 u rows.length xs L'∧dx G' 2 rows xs):=by
 obtain ⟨hn,hc1,hc2,hnil,hx⟩:=hv.cells;refine jc (N:=8) (T:=[(0,_)]) func178 M ntmps178 M M hO ?_;intro a H;refine kP H (SR fun _ K1=>aj K1 M (SQ fun _ K2=>SR fun _ K3=>Rm M ?_));clear H K1;intro a H;refine Dg xI H wn M M ?_;clear H;intro a H;refine K3 _ _ ?_;clear K3;refine jL H M ?_ ?_
 ·intro h4
  refine kP H (SR fun _ K4=>aj K4 M ?_);clear H K4;intro a H;refine lr H results178 M ?_;exact Km
 intro h4
 try have p4:=dF h4
 refine iD ?_;refine K2 _ _ ?_;clear K2;refine bL (fun _ K5=>?_)
 have hA:¬ A=none:=by intro e;rw [e] at h4;cases h4
 refine oQ ?_;refine Dc xI BP H wn M ?_;clear H;intro b5 a w hb5 H;refine kH H (Rm M ?_);clear H;intro a H
 by_cases hr0:rows=[]
 ·have hn0:n=0:=by rw [hn,hr0];rfl
  subst hn0;refine BK xI BP H wn M M (dS _) M ?_;clear H;intro a H;refine kH H (bF K5 M ?_);clear H K5;intro a H;refine lr H results178 M ?_;subst hr0;exact Ki
 obtain ⟨b,o,xs,rfl,hxl,hxc,hx1,fu⟩:=hx hr0;refine ny (Li:=[]) (Lo:=[_]) (news:=xs) xI BP M M H wn M M bY.empty hxl (fun j u hj=>H.hp.aI (hxc j u hj)) hx1 O O M ?_;clear H;intro v7 Lo a w hrow H;dsimp only [List.nil_append] at H;exact kH H (bF K5 M (LR results178 M fun H=>H.hp.gQ ⟨_,by rw [gZ,hn] at hrow;exact hrow,fu⟩))
theorem apn (G:GH) (w0:World) (hG:Hold G w0) (rows:List (List Dat)) (A:Option Addr) (n c:Nat) (hv:av G (.sl 2 rows) (.slice A n c)) (hz:rows.length<=4294967296) :
  Calls prog 178 #[.slice A n c] w0 (bE w0 G fun u G'=>av G' (.sl 2 rows) u):=Kw hG (apv G w0 (zD hG) rows A n c hv hz) M
theorem aps (G:GH) (w0:World) (hO:gq G [] w0) (rows:List (List Dat)) (A:Option Addr) (n c:Nat) (hv:av G (.sl 4 rows) (.slice A n c)) (hz:rows.length<=4294967296) :
  Calls prog 179 #[.slice A n c] w0 (fM w0 G [] fun u G' L'=>∃ xs,bY 96 4 u rows.length xs L'∧dx G' 4 rows xs):=by
 obtain ⟨hn,hc1,hc2,hnil,hx⟩:=hv.cells;refine jc (N:=8) (T:=[(0,_)]) func179 M ntmps179 M M hO ?_;intro a H;refine kP H (SR fun _ K1=>aj K1 M (SQ fun _ K2=>SR fun _ K3=>Rm M ?_));clear H K1;intro a H;refine Dg GD H wn M M ?_;clear H;intro a H;refine K3 _ _ ?_;clear K3;refine jL H M ?_ ?_
 ·intro h4
  refine kP H (SR fun _ K4=>aj K4 M ?_);clear H K4;intro a H;refine lr H results179 M ?_;exact Km
 intro h4
 try have p4:=dF h4
 refine iD ?_;refine K2 _ _ ?_;clear K2;refine bL (fun _ K5=>?_)
 have hA:¬ A=none:=by intro e;rw [e] at h4;cases h4
 refine oQ ?_;refine Dc GD JD H wn M ?_;clear H;intro b5 a w hb5 H;refine kH H (Rm M ?_);clear H;intro a H
 by_cases hr0:rows=[]
 ·have hn0:n=0:=by rw [hn,hr0];rfl
  subst hn0;refine BK GD JD H wn M M (dS _) M ?_;clear H;intro a H;refine kH H (bF K5 M ?_);clear H K5;intro a H;refine lr H results179 M ?_;subst hr0;exact Ki
 obtain ⟨b,o,xs,rfl,hxl,hxc,hx1,fu⟩:=hx hr0;refine ny (Li:=[]) (Lo:=[_]) (news:=xs) GD JD M M H wn M M bY.empty hxl (fun j u hj=>H.hp.aI (hxc j u hj)) hx1 O O M ?_;clear H;intro v7 Lo a w hrow H;dsimp only [List.nil_append] at H;exact kH H (bF K5 M (LR results179 M fun H=>H.hp.gQ ⟨_,by rw [gZ,hn] at hrow;exact hrow,fu⟩))
theorem apm (G:GH) (w0:World) (hG:Hold G w0) (rows:List (List Dat)) (A:Option Addr) (n c:Nat) (hv:av G (.sl 4 rows) (.slice A n c)) (hz:rows.length<=4294967296) :
  Calls prog 179 #[.slice A n c] w0 (bE w0 G fun u G'=>av G' (.sl 4 rows) u):=Kw hG (aps G w0 (zD hG) rows A n c hv hz) M
theorem ark:aR 175:=aS func175 M
theorem arl:aR 176:=aS func176 M
theorem arn:aR 177:=aS func177 M
theorem aro:aR 178:=aS func178 M
theorem aC4:qV prog 36 [(0,1),(1,1),(2,1),(3,1)] [.slice none 0 0,.slice none 0 0,.slice none 0 0,.slice none 0 0]:=⟨V,V⟩
theorem arp:aR 179:=aS func179 M
theorem aX.setAt {G:GH}:∀ {r:List Dat} {cs:List ah} {k:Nat} {d:Dat} {v:ah},aX G r cs->r[k]?=some d->av G d v->aX G r (cs.set k v)
 | [],_,_,_,_,_,h,_=>by simp at h
 | e :: r,cs,k,d,v,h,hk,hv=>by
  simp only [aX] at h |-
  obtain ⟨x,vs,rfl,h1,h2⟩:=h
  cases k with
  | zero =>
   simp only [Cj,pX] at hk
   subst hk;exact ⟨v,vs,M,hv,h2⟩
  | succ k=>exact ⟨x,vs.set k v,M,h1,aX.setAt h2 (by simpa using hk) hv⟩
theorem dx.setAt {G:GH} {sz:Nat}:∀ {rows:List (List Dat)} {xs:List ah} {i k:Nat} {r:List Dat} {d:Dat} {v:ah},dx G sz rows xs->rows[i]?=some r->r[k]?=some d->k < sz->av G d v->dx G sz rows (xs.set (i*sz+k) v)
 | [],_,_,_,_,_,_,_,h,_,_,_=>by simp at h
 | q :: rows,xs,i,k,r,d,v,h,hr,hk,hs,hv=>by
  obtain ⟨css,rfl,h2,h3⟩:=h
  cases css with
  | nil=>simp at h2
  | cons c css =>
   obtain ⟨h4,h5⟩:=h3 0 q c M M;have h6:dx G sz rows css.flatten:=⟨css,M,by simpa using h2,fun j r' cs hr' hc=>h3 (j+1) r' cs (by simpa using hr') (by simpa using hc)⟩
   have h7:∀ {c' x':List ah},aX G q c'->c'.length=sz->dx G sz rows x'->dx G sz (q :: rows) (c'++x'):=fun a b e=>by
    have h8:=((dx.nil (G:=G) (sz:=sz)).snoc a b).append e
    simpa using h8
   rw [List.flatten_cons]
   cases i with
   | zero =>
    simp only [Cj,pX] at hr
    subst hr;rw [Nat.zero_mul,gZ,List.set_append_left _ _ O];exact h7 (h4.setAt hk hv) (by rw [List.length_set];exact h5) h6
   | succ i =>
    rw [List.set_append_right _ _ (by rw [h5,Nat.succ_mul];omega),h5,show (i+1)*sz+k - sz=i*sz+k by rw [Nat.succ_mul];omega];exact h7 h4 h5 (dx.setAt h6 (by simpa using hr) hk hs hv)
theorem aC9 {G:GH} {l:List cK} {xs:List ah} {k:Nat} (h:dx G 6 (l.map cK.dat) xs) (hk:k < l.length):∃ A c,xs[k*6+5]?=some (.slice A l[k].props.length c)∧av G (.sl 2 (l[k].props.map aN.dat)) (.slice A l[k].props.length c):=by
 obtain ⟨cs,hcl,hcx,hcr⟩:=h.at (k:=k) (r:=l[k].dat) (by simp [hk]);obtain ⟨A,c,rfl,hp⟩:=TT hcr;exact ⟨A,c,hcx 5 _ M,hp⟩
theorem ayX {G:GH} {l:List fT} {xs:List ah} {k:Nat} (h:dx G 2 (l.map fT.dat) xs) (hk:k < l.length):∃ A n c,xs[k*2+1]?=some (.slice A n c)∧av G (.sl 4 (l[k].levels.map qB.dat)) (.slice A n c):=by
 obtain ⟨cs,hcl,hcx,hcr⟩:=h.at (k:=k) (r:=l[k].dat) (by simp [hk]);obtain ⟨v1,vs,rfl,-,v2,vs2,rfl,h2,-⟩:=hcr;obtain ⟨A,n,c,rfl⟩:=av.form h2;exact ⟨A,n,c,hcx 1 _ M,h2⟩
theorem anY {p:Prop} (h:p:=by
 exact Ac HT Hb hG hv (jd aP) H M):p:=h
theorem anZ {p:Prop} (h:p:=by
 exact oV V (jd aP) M M HT Hb hG hv Bo (vC) H):p:=h
theorem vX {p:Prop} (h:p:=by
 clear H;intro a H;refine aD ⟨M,?_⟩;exact anY):p:=h
theorem VQ {p:Prop} (h:p:=by
 (iterate 15 (rcases i with _|i;(first|exact h|exact absurd hi Z|exact absurd hc Z)));exact trivial):p:=h
theorem aea {p:Prop} (h:p:=by
 refine eY [] M trivial V CU M M ?_;intro aW a w G1 hG HT H fin;exact kH H (Rf KJ M fun _ H=>fin H iJ M)):p:=h
theorem aeg {p:Prop} (h:p:=by
 refine eY [] M trivial V CV M M ?_;intro aW a w G1 hG HT H fin;exact kH H (Rf KI M fun _ H=>fin H iJ M)):p:=h
theorem acZ {p:Prop} (h:p:=by
 intro aW a w G1 hG HT H fin;exact kH H (Ro uf 0 M fun _ H=>fin H iJ M)):p:=h
theorem ada {p:Prop} (h:p:=by
 intro aW a w G1 hG HT H fin;exact kH H (Ro Dr 0 M fun _ H=>fin H iJ M)):p:=h
theorem adb {p:Prop} (h:p:=by
 clear H;rintro v14 EN a w vC Bo H;refine aD ⟨M,?_⟩;exact anZ):p:=h
set_option maxHeartbeats 2000000 in
theorem apz (G:GH) (w0:World) (hG:Hold G w0) (s:Ch) (a1 MZ c1 d1:ah) (hR:AO G s a1 MZ c1 d1) (z1:s.styles.length<=4294967296) (z2:s.lists.length<=4294967296) (z3:s.comments.length<=4294967296) (z4:s.vars.length<=4294967296) (z5:∀ x∈s.styles,x.props.length<=4294967296) (z6:∀ x∈s.lists,x.levels.length<=4294967296) :
  Calls prog 116 #[.agg #[a1,MZ,c1,d1]] w0 (bE w0 G fun u G'=>∃ a' b' c' d',u=.agg #[a',b',c',d']∧AO G' s a' b' c' d'):=by
 have hml:maxLen=9223372036854775807:=rfl;obtain ⟨aA,an,ac,rfl⟩:=hR.st.form;obtain ⟨bA,bn,bc,rfl⟩:=hR.li.form;obtain ⟨cA,cn,cc,rfl⟩:=hR.cm.form;obtain ⟨dA,dn,dc,rfl⟩:=hR.va.form;obtain ⟨hs1,hs2,hs3,hs4⟩:=hR;refine eN [(0,_)] func116 M ntmps116 M M hG ?_;intro a H;refine cZ (fun _ K1=>?_);refine dZ (cs:=[_,_,_,_]) H wn M M M ?_;clear H;intro b1 a w hb1 H;refine dW BR H wn M ?_;clear H;intro b2 a w hb2 H;refine K1 _ _ ?_;clear K1;refine bL (fun _ K2=>?_);have H:=H.eD (Pl:=[_,_]) (dK:=[_,_]) [1,0] Z M;obtain ⟨Ga,hma,hb1',H⟩:=H.fU;have hga:=fun j v hj=>wu hb1' 0 [.slice aA an ac,.slice bA bn bc,.slice cA cn cc,.slice dA dn dc] M j v hj;replace hs1:=hs1.mono hma;replace hs2:=hs2.mono hma;replace hs3:=hs3.mono hma;replace hs4:=hs4.mono hma
 have jd:P8 (fun (aP:Nat->ah × OL) (bV:Nat) (v:ah) (G:GH)=>match bV with|0=>v=(aH b1 0)|1=>v=.slice aA an ac|2=>v=(aP 2).1∧∃ xs,bY 192 6 v s.styles.length xs (aP 2).2∧dx G 6 (s.styles.map cK.dat) xs|3=>v=(aH b1 1)|4=>v=.slice bA bn bc|5=>v=(aP 5).1∧∃ xs,bY 93 2 v s.lists.length xs (aP 5).2∧dx G 2 (s.lists.map fT.dat) xs|6=>v=(aH b1 2)|7=>v=.slice cA cn cc|8=>av G (.sl 6 (s.comments.map jq.dat)) v|9=>v=(aH b1 3)|10=>v=.slice dA dn dc|11=>av G (.sl 2 (s.vars.map nJ.dat)) v|12=>∃ c' d',v=.agg #[(aP 2).1,(aP 5).1,c',d']∧av G (.sl 6 (s.comments.map jq.dat)) c'∧av G (.sl 2 (s.vars.map nJ.dat)) d'|13=>∃ b,v=(aH b 0)∧aP 13=((aH b 0),[(b,.cells #[.slice none 0 0,.slice none 0 0,.slice none 0 0,.slice none 0 0] 36 (0,0))])|_=>True):=by intro aP bV v G G' hm h;(iterate 15 (rcases bV with _|bV;(first|exact h|exact let ⟨h1,xs,h2,h3⟩:=h;⟨h1,xs,h2,h3.mono hm⟩|exact av.mono hm h|exact let ⟨c',d',h1,h2,h3⟩:=h;⟨c',d',h1,h2.mono hm,h3.mono hm⟩)));exact trivial
 refine V7 [2,5,13] (hmx) [[],[0],[0,1],[],[3],ra 0 5,[],[6],ra 0 8,[],[9],ra 0 11,ra 0 12,[],ra 0 14] [14] V V Z V (fun (aP:Nat->ah × OL) (bV:Nat) (v:ah) (G:GH)=>match bV with|0=>v=(aH b1 0)|1=>v=.slice aA an ac|2=>v=(aP 2).1∧∃ xs,bY 192 6 v s.styles.length xs (aP 2).2∧dx G 6 (s.styles.map cK.dat) xs|3=>v=(aH b1 1)|4=>v=.slice bA bn bc|5=>v=(aP 5).1∧∃ xs,bY 93 2 v s.lists.length xs (aP 5).2∧dx G 2 (s.lists.map fT.dat) xs|6=>v=(aH b1 2)|7=>v=.slice cA cn cc|8=>av G (.sl 6 (s.comments.map jq.dat)) v|9=>v=(aH b1 3)|10=>v=.slice dA dn dc|11=>av G (.sl 2 (s.vars.map nJ.dat)) v|12=>∃ c' d',v=.agg #[(aP 2).1,(aP 5).1,c',d']∧av G (.sl 6 (s.comments.map jq.dat)) c'∧av G (.sl 2 (s.vars.map nJ.dat)) d'|13=>∃ b,v=(aH b 0)∧aP 13=((aH b 0),[(b,.cells #[.slice none 0 0,.slice none 0 0,.slice none 0 0,.slice none 0 0] 36 (0,0))])|_=>True) (fun m hm x y i v G hi hc h=>by
  have hm:m=2∨m=5∨m=13:=by simpa using hm
  rcases hm with rfl|rfl|rfl
  ·exact VQ
  ·exact VQ
  ·exact VQ
  ) H ?_ ?_ ?_
 ·clear H;refine aB ?_ ?_ ?_ ?_ (aB ?_ ?_ ?_ ?_ (aB ?_ ?_ ?_ ?_ (bN ?_ (bN ?_ (bN ?_ dz)))))
  ·intro aP dU aW a w G1 fE _ _ aK hc hG HT hv;have H:=HT;clear aK;have Hb:=H.full;have H:=Hb;clear hc;refine kH H (Rf KI M ?_);exact vX
  ·intro aP dU aW a w G1 fE _ _ aK hc hG HT hv;have H:=HT;clear aK;have H:=H.aM (hv 0 6 (hc 0 Z) M) M;have Hb:=H.full;have H:=Hb;clear hc;refine kH H (Rg uf M (aG hG (hga 0 _ M)) ?_);exact vX
  ·exact zW
  ·intro aP dU aW a w G1 fE _ _ aK hc hG HT hv;have H:=HT;clear aK;have Hb:=H.full;have H:=Hb;clear hc;refine kH H (Rf KJ M ?_);exact vX
  ·intro aP dU aW a w G1 fE _ _ aK hc hG HT hv;have H:=HT;clear aK;have H:=H.aM (hv 3 9 (hc 3 Z) M) M;have Hb:=H.full;have H:=Hb;clear hc;refine kH H (Rg Dr M (aG hG (hga 1 _ M)) ?_);exact vX
  ·exact zW
  ·intro aP dU aW a w G1 fE _ _ aK hc hG HT hv;have H:=HT;clear aK;have Hb:=H.full;have H:=Hb;clear hc;refine kH H (Rf Xd M ?_);exact vX
  ·intro aP dU aW a w G1 fE _ _ aK hc hG HT hv;have H:=HT;clear aK;have H:=H.aM (hv 6 12 (hc 6 Z) M) M;have Hb:=H.full;have H:=Hb;clear hc;refine kH H (Rg GA M (aG hG (hga 2 _ M)) ?_);exact vX
  ·intro aP dU aW a w G1 fE _ _ aK hc hG HT hv;have H:=HT;clear aK;have H:=H.aM (hv 7 13 (hc 7 Z) M) M;have Hb:=H.full;have H:=Hb;clear hc;refine s_call arn H wn M (apl _ _ H.ro _ _ _ _ (hs3.mono hG) (by simpa using z3)) M ?_;exact adb
  ·intro aP dU aW a w G1 fE _ _ aK hc hG HT hv;have H:=HT;clear aK;have Hb:=H.full;have H:=Hb;clear hc;refine kH H (Rf Xe M ?_);exact vX
  ·intro aP dU aW a w G1 fE _ _ aK hc hG HT hv;have H:=HT;clear aK;have H:=H.aM (hv 9 15 (hc 9 Z) M) M;have Hb:=H.full;have H:=Hb;clear hc;refine kH H (Rg zJ M (aG hG (hga 3 _ M)) ?_);exact vX
  ·intro aP dU aW a w G1 fE _ _ aK hc hG HT hv;have H:=HT;clear aK;have H:=H.aM (hv 10 16 (hc 10 Z) M) M;have Hb:=H.full;have H:=Hb;clear hc;refine s_call aro H wn M (apn _ _ H.ro _ _ _ _ (hs4.mono hG) (by simpa using z4)) M ?_;clear H;rintro v17 AB a w FN auA H;refine aD ⟨M,?_⟩;exact oV V (jd aP) M M HT Hb hG hv auA (FN) H
  ·intro aP dU aW a w G1 fE _ _ aK hc hG HT hv;have H:=HT;clear aK;obtain ⟨u8,zx,mI⟩:=hv 2 8 (hc 2 Z) M;(try dsimp only at mI);obtain ⟨h8,Ui,Er,RP⟩:=mI;obtain ⟨sA,sc,rfl,-,-⟩:=Er.shape;have H:=H.gU zx;obtain ⟨u11,I7,vB⟩:=hv 5 11 (hc 5 Z) M;(try dsimp only at vB);obtain ⟨h11,MI,xu,KW⟩:=vB;obtain ⟨lA,lc,rfl,-,-⟩:=xu.shape;have H:=H.gU I7;obtain ⟨u14,OB,vC⟩:=hv 8 14 (hc 8 Z) M;(try dsimp only at vC);obtain ⟨PD,n14,c14,rfl⟩:=vC.form;have H:=H.gU OB;obtain ⟨u17,axN,FN⟩:=hv 11 17 (hc 11 Z) M;(try dsimp only at FN);obtain ⟨Ur,n17,c17,rfl⟩:=FN.form;have H:=H.gU axN;have Hb:=H.full;have H:=Hb;clear hc;refine jM aC4 [_,_,_,_] H wn M M M M ?_;clear H;intro a H;refine aD ⟨M,?_⟩;exact oV V (jd aP) M M HT Hb hG hv (fun _ _ h=>h) (⟨_,_,by rw [<- h8,<- h11],vC,FN⟩) H
  ·exact zW
  exact Kk
 ·clear H;refine aB ?_ ?_ ?_ ?_ (aB ?_ ?_ ?_ ?_ (aB ?_ ?_ ?_ ?_ (bN ?_ (bN ?_ (bN ?_ dz)))))
  ·intro hB;exact gV
  ·intro hB;exact gV
  ·intro _ aP dU aW a w G1 fE _ hc hG HT hv;have H:=HT;have H:=H.aM (hv (.bool false,[]) 1 7 Z (hc 1 Z) M) M;have Hb:=H.full;have H:=Hb;clear hc;refine gW ark (Li:=dU) (L:=[]) (H.cast (fG _).symm) wn M (apu _ _ (zD H.ro) _ _ _ _ (hs1.mono hG) (by simpa using z1)) M ?_;clear H;rintro v8 G8 L8 a w ⟨Ui,Er,RP⟩ wz H;rw [bK] at Er;have H:=H.perm uU;refine aD ⟨M,(v8,L8),?_⟩;exact Bc V (jd (oL aP 2 (v8,L8))) M HT Hb hG (fun j e h1 h2 h3=>hv (v8,L8) j e h1 h2 h3) wz (⟨M,Ui,Er,RP⟩) H
  ·intro hB;exact gV
  ·intro hB;exact gV
  ·intro _ aP dU aW a w G1 fE _ hc hG HT hv;have H:=HT;have H:=H.aM (hv (.bool false,[]) 4 10 Z (hc 4 Z) M) M;have Hb:=H.full;have H:=Hb;clear hc;refine gW arl (Li:=dU) (L:=[]) (H.cast (fG _).symm) wn M (apt _ _ (zD H.ro) _ _ _ _ (hs2.mono hG) (by simpa using z2)) M ?_;clear H;rintro v11 yM GY a w ⟨MI,xu,KW⟩ tQ H;rw [bK] at xu;have H:=H.perm uU;refine aD ⟨M,(v11,GY),?_⟩;exact Bc V (jd (oL aP 5 (v11,GY))) M HT Hb hG (fun j e h1 h2 h3=>hv (v11,GY) j e h1 h2 h3) tQ (⟨M,MI,xu,KW⟩) H
  ·intro hB;exact gV
  ·intro hB;exact gV
  ·intro hB;exact gV
  ·intro hB;exact gV
  ·intro hB;exact gV
  ·intro hB;exact gV
  ·intro hB;exact gV
  ·intro _ aP dU aW a w G1 fE _ hc hG HT hv;have H:=HT;have Hb:=H.full;have H:=Hb;clear hc;refine dW BR H wn M ?_;clear H;intro b3 a w hb3 H;refine aD ⟨M,((aH b3 0),[(b3,.cells #[.slice none 0 0,.slice none 0 0,.slice none 0 0,.slice none 0 0] 36 (0,0))]),?_⟩;exact Bc V (jd (oL aP 13 ((aH b3 0),[(b3,.cells #[.slice none 0 0,.slice none 0 0,.slice none 0 0,.slice none 0 0] 36 (0,0))]))) M HT Hb hG (fun j e h1 h2 h3=>hv ((aH b3 0),[(b3,.cells #[.slice none 0 0,.slice none 0 0,.slice none 0 0,.slice none 0 0] 36 (0,0))]) j e h1 h2 h3) (fun _ _ h=>h) (⟨b3,M,M⟩) H
  intro hB;exact gV
 clear H;intro aP a w G nO H hv
 simp only [jk,List.flatMap_cons,List.flatMap_nil,cond_true,fG,iL] at H
 obtain ⟨u3,hu3,hp3⟩:=hv 13 3 Z M;(try dsimp only at hp3);obtain ⟨b3,rfl,e13⟩:=hp3;have H:=H.gU hu3;obtain ⟨u8,zx,mI⟩:=hv 2 8 Z M;(try dsimp only at mI);obtain ⟨h8,Ui,Er,RP⟩:=mI;obtain ⟨sA,sc,rfl,-,-⟩:=Er.shape;have H:=H.gU zx;obtain ⟨u11,I7,vB⟩:=hv 5 11 Z M;(try dsimp only at vB);obtain ⟨h11,MI,xu,KW⟩:=vB;obtain ⟨lA,lc,rfl,-,-⟩:=xu.shape;have H:=H.gU I7;obtain ⟨u18,YT,FP⟩:=hv 12 18 Z M;(try dsimp only at FP);obtain ⟨aFY,aFZ,rfl,hc18,ahz⟩:=FP;obtain ⟨eA,en,ec,rfl⟩:=hc18.form;obtain ⟨fA,fn,fc,rfl⟩:=ahz.form;have H:=H.gU YT;clear hv;obtain ⟨⟨vS,LS⟩,eS⟩:∃ y,y=aP 2:=⟨_,M⟩;obtain ⟨⟨vL,LL⟩,eL⟩:∃ y,y=aP 5:=⟨_,M⟩;rw [<- eS,<- eL,e13] at H;rw [<- eS] at Er h8;rw [<- eL] at xu h11;dsimp only at H Er xu h8 h11;subst h8;subst h11;rw [<- iL] at H;have H:=H.perm (uU (l₁:=LS++LL) (l₂:=[_,_]));dsimp only [lca,bM] at H;refine bJ BR 0 (vs:=[_,_,_,_]) H wn M ?_;clear H;intro w H;refine aD ⟨M,?_⟩;refine K2 _ _ ?_;clear K2;refine kP H (SQ fun _ K3=>SR fun _ K4=>bC KI uf 0 M M (Rl nE M (Rm M (Kz K4 (SB ?_)))));clear H K4;intro a H;skip;refine fD (ι:=Nat × List ah × OL × GH) (Tc:=[(2,_),(3,_),(21,_)]) (Lc:=[(_,_),(_,_)]) (fun gh=>[(22,vi gh.1)]) (fun gh=>[]++(gh.2.2.1++LL)) (fun gh=>gh.2.2.2) (fun gh=>gh.1<=s.styles.length∧bY 192 6 (.slice sA s.styles.length sc) s.styles.length gh.2.1 gh.2.2.1∧dx gh.2.2.2 6 (s.styles.map cK.dat) gh.2.1∧(∀ b o,G b=some o->gh.2.2.2 b=some o)) (fun gh=>s.styles.length - gh.1) ((0,Ui,LS,G)) (by exact H.sub ⟨M,M,M,M,aC⟩) ?_ ?_
 ·exact ⟨kY _,Er,RP,fun _ _ h=>h⟩
 clear H;rintro ⟨k,xs,Lo,g⟩ a w hI H;dsimp only at hI H;obtain ⟨hk,hrw,fu,hgm⟩:=hI;dsimp only [lca,bM] at H;refine kP H (SR fun _ K5=>Rc M (Kz K5 (SQ fun _ K6=>Cd M ?_ ?_))) <;> clear H K5
 ·intro h23 a H
  try have C9:=dT h23
  have hk2:k < s.styles.length:=by omega
  obtain ⟨bs,rfl⟩:=hrw.ptr O;obtain ⟨pA,pc,hpx,hpr⟩:=aC9 fu hk2;obtain ⟨cur,-,rfl,hcur,hset⟩:=hrw.set1;have hpz:=z5 _ (jS hk2);refine kP H (Kc K6 (SQ fun _ K7=>SB (SR fun _ K8=>Rm M (aj K8 M ?_))));clear H K6 K8;intro a H
  have CV:zR (fun (bV:Nat) (v:ah) (G:GH)=>match bV with|0=>v=(aH b3 0)|1=>v=.slice (some ⟨bs,0,none⟩) s.styles.length sc|2=>v=vi k|3=>v=(aH b3 0)|4=>v=.slice (some ⟨bs,0,none⟩) s.styles.length sc|5=>v=vi k|6=>v=(aH bs (0+k*6))|7=>v=(aH bs (0+k*6+5))|8=>v=.slice pA s.styles[k].props.length pc|9=>av G (.sl 2 (s.styles[k].props.map aN.dat)) v|_=>True):=by intro bV v G G' hm h;(iterate 13 (rcases bV with _|bV;(first|exact h|exact av.mono hm h)));exact trivial
  refine yU (hmx) [[],[0],[],[],[3],[],[3,4,5],ra 3 4,ra 3 5,ra 3 6,ra 0 10,ra 0 11,ra 0 12] [10,11,12] V V _ CV H ?_ ?_
  ·clear H;refine aB ?_ ?_ ?_ ?_ (aB ?_ ?_ ?_ ?_ (aB ?_ ?_ (bS M) (bS M) (bN (bS M) dz)))
   ·exact aeg
   ·refine eY [(0,25,_)] M ⟨fun _ _ h=>h,aC⟩ V CV M M ?_;exact acZ
   ·refine eY [] M trivial V CV M M ?_;exact AV
   ·exact aeg
   ·refine eY [(3,28,_)] M ⟨fun _ _ h=>h,aC⟩ V CV M M ?_;exact acZ
   ·refine eY [] M trivial V CV M M ?_;exact AV
   ·refine eY [(4,29,_),(5,30,_)] M ⟨fun _ _ h=>h,fun _ _ h=>h,aC⟩ V CV M M ?_;intro aW a w G1 hG HT H fin;exact kH H (Ri nE lM M M fun _ H=>fin H iJ M)
   ·refine eY [(6,31,_)] M ⟨fun _ _ h=>h,aC⟩ V CV M M ?_;intro aW a w G1 hG HT H fin;exact kH H (Rf Rj M fun _ H=>fin H iJ M)
   ·refine eY [(7,32,_)] M ⟨fun _ _ h=>h,aC⟩ V CV M M ?_;intro aW a w G1 hG HT H fin;refine sF vK H wn M (hrw.at H.hp (fun x hx=>gI _ (gI _ (List.mem_append_left _ hx))) (by rw [gZ];exact hpx)) M ?_;exact jH
   refine eY [(8,33,_)] M ⟨fun _ _ h=>h,aC⟩ V CV M M ?_;intro aW a w G1 hG HT H fin;refine s_call QZ H wn M (Wp _ _ H.ro _ _ _ _ (hpr.mono hG) (by simpa using hpz)) M ?_;clear H;rintro v34 PN a w FQ auI H;exact fin H auI (FQ)
  clear H;intro a w G rz H hv;have H:=H.aM (hv 1 26 M M) M;have H:=H.aM (hv 2 27 M M) M;obtain ⟨u34,axQ,FQ⟩:=hv 9 34 Z M;(try dsimp only at FQ);obtain ⟨EJ,n34,c34,rfl⟩:=FQ.form;have H:=H.gU axQ;clear hv;refine kH H (Ri nE lM M M (Rf Rj M ?_));clear H;intro a H;refine Mt vK 2 (c:=cur) (vs:=[.slice EJ n34 c34]) (cur.set (k*6+5) (.slice EJ n34 c34)) H wn M M M M M M (by simp;omega) (by rw [gZ];rfl) ?_;clear H;intro w H;dsimp only [List.set,List.cons_append,List.nil_append] at H;have hrwn:=hset (k*6+5) (.slice EJ n34 c34);have avL:=(fu.mono rz).setAt (i:=k) (k:=5) (r:=s.styles[k].dat) (v:=.slice EJ n34 c34) (by simp [hk2]) M Z FQ;refine aD ⟨M,?_⟩;refine K7 _ _ ?_;clear K7;refine kP H (SC (Rd M (Rm M ?_)));clear H;intro a H;refine aD ?_;refine dQ ((k+1,xs.set (k*6+5) (.slice EJ n34 c34),[(bs,.cells (cur.set (k*6+5) (.slice EJ n34 c34)).toArray 192 (0,0))],_)) (by exact H.sub ⟨M,M,M,M,aC⟩) ?_
  (try dsimp only);exact ⟨O,hrwn,avL,fun b o h=>rz b o (hgm b o h)⟩
 intro h23 a H
 try have C9:=dF h23
 obtain rfl:k=s.styles.length:=by omega
 refine dY ?_;refine K3 _ _ ?_;clear K3;refine kP H (SQ fun _ K9=>SR fun _ aT=>bC KJ Dr 0 M M (Rl yK M (Rm M (Kz aT (SB ?_)))));clear H aT;intro a H;skip;refine fD (ι:=Nat × List ah × OL × GH) (Tc:=[(2,_),(3,_),(40,_)]) (Lc:=[(_,_),(_,_)]) (fun gh=>[(41,vi gh.1)]) (fun gh=>[]++(Lo++gh.2.2.1)) (fun gh=>gh.2.2.2) (fun gh=>gh.1<=s.lists.length∧bY 93 2 (.slice lA s.lists.length lc) s.lists.length gh.2.1 gh.2.2.1∧dx gh.2.2.2 2 (s.lists.map fT.dat) gh.2.1∧(∀ b o,g b=some o->gh.2.2.2 b=some o)) (fun gh=>s.lists.length - gh.1) ((0,MI,LL,g)) (by exact H.sub ⟨M,M,M,M,aC⟩) ?_ ?_
 ·exact ⟨kY _,xu,KW.mono hgm,fun _ _ h=>h⟩
 clear H;rintro ⟨k2,xs2,Lo2,g2⟩ a w hI H;dsimp only at hI H;obtain ⟨hk2,hrw2,Ah,jW⟩:=hI;dsimp only [lca,bM] at H;refine kP H (SR fun _ bR=>Rc M (Kz bR (SQ fun _ cu=>Cd M ?_ ?_))) <;> clear H bR
 ·intro jV a H
  try have p42:=dT jV
  have hk3:k2 < s.lists.length:=by omega
  obtain ⟨bl,rfl⟩:=hrw2.ptr O;obtain ⟨qA,qn,qc,hqx,hqr⟩:=ayX Ah hk3;obtain ⟨Fe,-,rfl,aE3,axB⟩:=hrw2.set1;have hqz:=z6 _ (jS hk3);refine kP H (Kc cu (SQ fun _ dw=>SB (SR fun _ dB=>Rm M (aj dB M ?_))));clear H cu dB;intro a H
  have CU:zR (fun (bV:Nat) (v:ah) (G:GH)=>match bV with|0=>v=(aH b3 1)|1=>v=.slice (some ⟨bl,0,none⟩) s.lists.length lc|2=>v=vi k2|3=>v=(aH b3 1)|4=>v=.slice (some ⟨bl,0,none⟩) s.lists.length lc|5=>v=vi k2|6=>v=(aH bl (0+k2*2))|7=>v=(aH bl (0+k2*2+1))|8=>v=.slice qA qn qc|9=>av G (.sl 4 (s.lists[k2].levels.map qB.dat)) v|_=>True):=by intro bV v G G' hm h;(iterate 13 (rcases bV with _|bV;(first|exact h|exact av.mono hm h)));exact trivial
  refine yU (hmx) [[],[0],[],[],[3],[],[3,4,5],ra 3 4,ra 3 5,ra 3 6,ra 0 10,ra 0 11,ra 0 12] [10,11,12] V V _ CU H ?_ ?_
  ·clear H;refine aB ?_ ?_ ?_ ?_ (aB ?_ ?_ ?_ ?_ (aB ?_ ?_ (bS M) (bS M) (bN (bS M) dz)))
   ·exact aea
   ·refine eY [(0,44,_)] M ⟨fun _ _ h=>h,aC⟩ V CU M M ?_;exact ada
   ·refine eY [] M trivial V CU M M ?_;exact AV
   ·exact aea
   ·refine eY [(3,47,_)] M ⟨fun _ _ h=>h,aC⟩ V CU M M ?_;exact ada
   ·refine eY [] M trivial V CU M M ?_;exact AV
   ·refine eY [(4,48,_),(5,49,_)] M ⟨fun _ _ h=>h,fun _ _ h=>h,aC⟩ V CU M M ?_;intro aW a w G1 hG HT H fin;exact kH H (Ri yK BS M M fun _ H=>fin H iJ M)
   ·refine eY [(6,50,_)] M ⟨fun _ _ h=>h,aC⟩ V CU M M ?_;intro aW a w G1 hG HT H fin;exact kH H (Rf Xf M fun _ H=>fin H iJ M)
   ·refine eY [(7,51,_)] M ⟨fun _ _ h=>h,aC⟩ V CU M M ?_;intro aW a w G1 hG HT H fin;refine sF aaM H wn M (hrw2.at H.hp (fun x hx=>gI _ (gI _ (List.mem_append_right _ hx))) (by rw [gZ];exact hqx)) M ?_;exact jH
   refine eY [(8,52,_)] M ⟨fun _ _ h=>h,aC⟩ V CU M M ?_;intro aW a w G1 hG HT H fin;refine s_call arp H wn M (apm _ _ H.ro _ _ _ _ (hqr.mono hG) (by simpa using hqz)) M ?_;clear H;rintro v53 G53 a w CQ XW H;exact fin H XW (CQ)
  clear H;intro a w G uD H hv;have H:=H.aM (hv 1 45 M M) M;have H:=H.aM (hv 2 46 M M) M;obtain ⟨u53,YV,CQ⟩:=hv 9 53 Z M;(try dsimp only at CQ);obtain ⟨Az,n53,c53,rfl⟩:=CQ.form;have H:=H.gU YV;clear hv;refine kH H (Ri yK BS M M (Rf Xf M ?_));clear H;intro a H;refine Mt aaM (2+Lo.length) (c:=Fe) (vs:=[.slice Az n53 c53]) (Fe.set (k2*2+1) (.slice Az n53 c53)) H wn M (ayj [_,_] Lo _) M M M M (by simp;omega) (by rw [gZ];rfl) ?_;clear H;intro w H;have H:=H.cast (aCn [_,_] Lo _ _);have axA:=axB (k2*2+1) (.slice Az n53 c53);have avM:=(Ah.mono uD).setAt (i:=k2) (k:=1) (r:=s.lists[k2].dat) (v:=.slice Az n53 c53) (by simp [hk3]) M Z CQ;refine aD ⟨M,?_⟩;refine dw _ _ ?_;clear dw;refine kP H (SC (Rd M (Rm M ?_)));clear H;intro a H;refine aD ?_;refine dQ ((k2+1,xs2.set (k2*2+1) (.slice Az n53 c53),[(bl,.cells (Fe.set (k2*2+1) (.slice Az n53 c53)).toArray 93 (0,0))],_)) (by exact H.sub ⟨M,M,M,M,aC⟩) ?_
  (try dsimp only);exact ⟨O,axA,avM,fun b o h=>uD b o (jW b o h)⟩
 intro jV a H
 try have p42:=dF jV
 obtain rfl:k2=s.lists.length:=by omega
 refine dY ?_;refine K9 _ _ ?_;clear K9;refine cZ (fun _ dX=>?_);refine bQ BR (cs:=[_,_,_,_]) H wn M M (H.hp.dG 0 M M) M ?_;clear H;intro a H;refine bJ BR 1 (vs:=[_,_,_,_]) H wn M ?_;clear H;intro w H;refine dX _ _ ?_;clear dX;refine eP ?_;have H:=H.un (A:=[_,_]);obtain ⟨Gr,hmr,IZ,H⟩:=St.qh (Li:=[_,_]++Lo) H hrw2 (rows:=s.lists.map fT.dat) (by simp) Ah;obtain ⟨Gs,hms,axh,H⟩:=St.qh (Li:=[_,_]) H hrw (rows:=s.styles.map cK.dat) (by simp) ((fu.mono jW).mono hmr);refine (leave1 H results116 (.cons (qM BR (cs:=[_,_,_,_]) H M M (H.hp.dG 1 M M)) .nil) ?_).1;exact H.rt ⟨_,_,_,_,M,axh,IZ.mono hms,(((hc18.mono hgm).mono jW).mono hmr).mono hms,(((ahz.mono hgm).mono jW).mono hmr).mono hms⟩
theorem afX:aR 60:=aS func60 M
theorem aqy:aR 116:=aS func116 M
theorem als:qV prog 38 [(0,1),(1,5),(6,1),(7,4)] [.slice none 0 0,.slice none 0 0,.int .i64 0,.int .i64 0,.slice none 0 0,.slice none 0 0,.slice none 0 0,.slice none 0 0,.slice none 0 0,.slice none 0 0,.slice none 0 0]:=⟨V,V⟩
theorem apo (G:GH) (w0:World) (hO:gq G [] w0) (l:List ak) (v:ah) (hv:av G (.sl 11 (l.map ak.dat)) v) (hz:bq l<=4294967296) :
  Calls prog 80 #[v] w0 (fM w0 G [] fun u G' L'=>∃ xs,bY 68 11 u l.length xs L'∧dx G' 11 (l.map ak.dat) xs):=by
 have ih:=QK 4294967297 O;have hl:=Dw l;refine jc (N:=5) (T:=[(0,_)]) func80 M ntmps80 M M hO ?_;intro a H;refine kP H (SR fun _ K1=>aj K1 M (SR fun _ K2=>Rm M ?_));clear H K1;intro a H;refine gW afz (Li:=[]) (L:=[]) H wn M (afo (fun x=>x) _ _ (zD H.ro) l _ _ hv O (fun y hy=>aeI (n:=4294967296) (QK 4294967296 O) O y (by have:=abb hy;omega))) rfl ?_;clear H;rintro v4 G4 L4 a w ⟨xs4,axt,avH⟩ rD H;dsimp only [List.nil_append] at H;exact kH H (aj K2 M (LR results80 M fun H=>H.hp.gQ ⟨xs4,axt,avH⟩))
def amL (G:GH) (D:kN) (d:gX) (L:OL):Prop :=
 ∃ xf Lf xr Lr,L=Lf++Lr∧bY 68 11 (dh D.f) d.flow.length xf Lf∧dx G 11 (d.flow.map ak.dat) xf∧bY 102 3 (dh D.r) d.revs.length xr Lr∧dx G 3 (d.revs.map cB.dat) xr ∧
  jG G d.fin (dh D.p) (dh D.d) (dh D.y)∧D.ins=d.fin.marks.ins∧D.move=d.fin.marks.move∧AO G d.lK (dh D.s1) (dh D.s2) (dh D.s3) (dh D.s4)
theorem acF {p:Prop} (h:p:=by
 (iterate 14 (rcases i with _|i;(first|exact h|exact absurd hi Z|exact absurd hc Z)));exact trivial):p:=h
set_option maxHeartbeats 2000000 in
theorem aqb (G:GH) (w0:World) (hO:gq G [] w0) (D:kN) (d:gX) (hR:pO G D d) (hz:AA d) :
  Calls prog 63 #[D.val] w0 (fM w0 G [] fun u G' L'=>∃ D':kN,u=D'.val∧amL G' D' d L'):=by
 obtain ⟨hfl,hhd,hins,hmv,rF,hst⟩:=hR;obtain ⟨zf,zh,zr,zt,zs,JI⟩:=hz;refine jc (N:=16) (T:=[(0,_)]) func63 M ntmps63 M M hO ?_;intro a H;refine cZ (fun _ K1=>?_);refine dZ (cs:=[_,_,_,_,_,_,_,_,_,_,_]) H wn M M M ?_;clear H;intro b1 a w hb1 H;refine dW jN H wn M ?_;clear H;intro b2 a w hb2 H;refine K1 _ _ ?_;clear K1;refine bL (fun _ K2=>?_);have H:=H.eD (Pl:=[_,_]) (dK:=[_,_]) [1,0] Z M;obtain ⟨Ga,hma,hb1',H⟩:=H.fU;have hga:=fun j v hj=>wu hb1' 0 D.cells M j v hj;replace hfl:=hfl.mono hma;replace hhd:=hhd.mono hma;replace rF:=rF.mono hma;replace hst:=hst.mono hma
 have jd:P8 (fun (aP:Nat->ah × OL) (bV:Nat) (v:ah) (G:GH)=>match bV with|0=>v=(aH b1 0)|1=>v=dh D.f|2=>v=(aP 2).1∧∃ xs,bY 68 11 v d.flow.length xs (aP 2).2∧dx G 11 (d.flow.map ak.dat) xs|3=>v=(aH b1 1)|4=>v=sQ d.fin (dh D.p) (dh D.d) (dh D.y)|5=>∃ p y z,v=.agg #[p,vi d.fin.marks.ins,vi d.fin.marks.move,y,z]∧jG G d.fin p y z|6=>v=(aH b1 6)|7=>v=dh D.r|8=>v=(aP 8).1∧∃ xs,bY 102 3 v d.revs.length xs (aP 8).2∧dx G 3 (d.revs.map cB.dat) xs|9=>v=(aH b1 7)|10=>v=.agg #[dh D.s1,dh D.s2,dh D.s3,dh D.s4]|11=>∃ a' b' c' d',v=.agg #[a',b',c',d']∧AO G d.lK a' b' c' d'|_=>True):=by intro aP bV v G G' hm h;(iterate 14 (rcases bV with _|bV;(first|exact h|exact let ⟨h1,xs,h2,h3⟩:=h;⟨h1,xs,h2,h3.mono hm⟩|exact let ⟨p,y,z,h1,h2⟩:=h;⟨p,y,z,h1,h2.mono hm⟩|exact let ⟨p,q,y,z,h1,h2⟩:=h;⟨p,q,y,z,h1,h2.mono hm⟩)));exact trivial
 refine V7 [2,8] (hmx) [[],[0],[0,1],[],[3],ra 0 5,[],[6],ra 0 8,[],[9],ra 0 11,ra 0 12,ra 0 13] [12,13] V V Z V (fun (aP:Nat->ah × OL) (bV:Nat) (v:ah) (G:GH)=>match bV with|0=>v=(aH b1 0)|1=>v=dh D.f|2=>v=(aP 2).1∧∃ xs,bY 68 11 v d.flow.length xs (aP 2).2∧dx G 11 (d.flow.map ak.dat) xs|3=>v=(aH b1 1)|4=>v=sQ d.fin (dh D.p) (dh D.d) (dh D.y)|5=>∃ p y z,v=.agg #[p,vi d.fin.marks.ins,vi d.fin.marks.move,y,z]∧jG G d.fin p y z|6=>v=(aH b1 6)|7=>v=dh D.r|8=>v=(aP 8).1∧∃ xs,bY 102 3 v d.revs.length xs (aP 8).2∧dx G 3 (d.revs.map cB.dat) xs|9=>v=(aH b1 7)|10=>v=.agg #[dh D.s1,dh D.s2,dh D.s3,dh D.s4]|11=>∃ a' b' c' d',v=.agg #[a',b',c',d']∧AO G d.lK a' b' c' d'|_=>True) (fun m hm x y i v G hi hc h=>by
  have hm:m=2∨m=8:=by simpa using hm
  rcases hm with rfl|rfl
  ·exact acF
  ·exact acF
  ) H ?_ ?_ ?_
 ·clear H;refine aB ?_ ?_ ?_ ?_ (aB ?_ ?_ ?_ ?_ (aB ?_ ?_ ?_ ?_ (bN ?_ (bN ?_ dz))))
  ·intro aP dU aW a w G1 fE _ _ aK hc hG HT hv;have H:=HT;clear aK;have Hb:=H.full;have H:=Hb;clear hc;refine kH H (Rf vZ M ?_);exact vX
  ·intro aP dU aW a w G1 fE _ _ aK hc hG HT hv;have H:=HT;clear aK;have H:=H.aM (hv 0 3 (hc 0 Z) M) M;have Hb:=H.full;have H:=Hb;clear hc;refine kH H (Rg jy M (aG hG (hga 0 _ M)) ?_);exact vX
  ·exact zW
  ·intro aP dU aW a w G1 fE _ _ aK hc hG HT hv;have H:=HT;clear aK;have Hb:=H.full;have H:=Hb;clear hc;refine kH H (Rf Fp M ?_);exact vX
  ·intro aP dU aW a w G1 fE _ _ aK hc hG HT hv;have H:=HT;clear aK;have H:=H.aM (hv 3 6 (hc 3 Z) M) M;have Hb:=H.full;have H:=Hb;clear hc;refine bQ gB (cs:=[dh D.p,vi d.fin.marks.ins,vi d.fin.marks.move,dh D.d,dh D.y]) H wn M M (fun j v hj=>H.hp.aI (aG hG (by rw [<- hins,<- hmv] at hj;exact wu hb1' 1 _ M j v hj))) M ?_;exact vX
  ·intro aP dU aW a w G1 fE _ _ aK hc hG HT hv;have H:=HT;clear aK;have H:=H.aM (hv 4 7 (hc 4 Z) M) M;have Hb:=H.full;have H:=Hb;clear hc;refine s_call QY H wn M (QJ _ _ H.ro d.fin _ _ _ _ _ _ _ _ _ (hhd.mono hG) zh) M ?_;clear H;rintro v8 G8 a w mI wz H;refine aD ⟨M,?_⟩;exact oV V (jd aP) M M HT Hb hG hv wz (mI) H
  ·intro aP dU aW a w G1 fE _ _ aK hc hG HT hv;have H:=HT;clear aK;have Hb:=H.full;have H:=Hb;clear hc;refine kH H (Rf Fq M ?_);exact vX
  ·intro aP dU aW a w G1 fE _ _ aK hc hG HT hv;have H:=HT;clear aK;have H:=H.aM (hv 6 9 (hc 6 Z) M) M;have Hb:=H.full;have H:=Hb;clear hc;refine kH H (Rg zI M (aG hG (hga 6 _ M)) ?_);exact vX
  ·exact zW
  ·intro aP dU aW a w G1 fE _ _ aK hc hG HT hv;have H:=HT;clear aK;have Hb:=H.full;have H:=Hb;clear hc;refine kH H (Rf NJ M ?_);exact vX
  ·intro aP dU aW a w G1 fE _ _ aK hc hG HT hv;have H:=HT;clear aK;have H:=H.aM (hv 9 12 (hc 9 Z) M) M;have Hb:=H.full;have H:=Hb;clear hc;refine bQ BR (cs:=[dh D.s1,dh D.s2,dh D.s3,dh D.s4]) H wn M M (fun j v hj=>H.hp.aI (aG hG (wu hb1' 7 _ M j v hj))) M ?_;exact vX
  ·intro aP dU aW a w G1 fE _ _ aK hc hG HT hv;have H:=HT;clear aK;have H:=H.aM (hv 10 13 (hc 10 Z) M) M;have Hb:=H.full;have H:=Hb;clear hc;refine s_call aqy H wn M (apz _ _ H.ro d.lK _ _ _ _ (hst.mono hG) zs JI.ln JI.cn JI.vn JI.pl JI.ll) M ?_;exact adb
  ·exact HY
  exact Kk
 ·clear H;refine aB ?_ ?_ ?_ ?_ (aB ?_ ?_ ?_ ?_ (aB ?_ ?_ ?_ ?_ (bN ?_ (bN ?_ dz))))
  ·intro hB;exact gV
  ·intro hB;exact gV
  ·intro _ aP dU aW a w G1 fE _ hc hG HT hv;have H:=HT;have H:=H.aM (hv (.bool false,[]) 1 4 Z (hc 1 Z) M) M;have Hb:=H.full;have H:=Hb;clear hc;refine gW Q6 (Li:=dU) (L:=[]) (H.cast (fG _).symm) wn M (apo _ _ (zD H.ro) d.flow _ (hfl.mono hG) O) M ?_;clear H;rintro v5 G5 L5 a w ⟨xs5,axu,avJ⟩ rz H;have H:=H.perm uU;refine aD ⟨M,(v5,L5),?_⟩;exact Bc V (jd (oL aP 2 (v5,L5))) M HT Hb hG (fun j e h1 h2 h3=>hv (v5,L5) j e h1 h2 h3) rz (⟨M,xs5,axu,avJ⟩) H
  ·intro hB;exact gV
  ·intro hB;exact gV
  ·intro hB;exact gV
  ·intro hB;exact gV
  ·intro hB;exact gV
  ·intro _ aP dU aW a w G1 fE _ hc hG HT hv;have H:=HT;have H:=H.aM (hv (.bool false,[]) 7 10 Z (hc 7 Z) M) M;have Hb:=H.full;have H:=Hb;clear hc;refine gW afX (Li:=dU) (L:=[]) (H.cast (fG _).symm) wn M (aeJ _ _ (zD H.ro) _ _ _ _ (rF.mono hG) (by simpa using zr)) M ?_;clear H;rintro v11 yM GY a w ⟨MI,xu,KW⟩ tQ H;rw [bK] at xu;have H:=H.perm uU;refine aD ⟨M,(v11,GY),?_⟩;exact Bc V (jd (oL aP 8 (v11,GY))) M HT Hb hG (fun j e h1 h2 h3=>hv (v11,GY) j e h1 h2 h3) tQ (⟨M,MI,xu,KW⟩) H
  ·intro hB;exact gV
  ·intro hB;exact gV
  ·intro hB;exact gV
  ·intro hB;exact gV
  intro hB;exact gV
 clear H;intro aP a w G nO H hv
 simp only [jk,List.flatMap_cons,List.flatMap_nil,cond_true,fG,iL] at H
 obtain ⟨u5,I8,wC⟩:=hv 2 5 Z M;(try dsimp only at wC);obtain ⟨h5,xf,LU,Ya⟩:=wC;obtain ⟨fA,fc,rfl,-,-⟩:=LU.shape;have H:=H.gU I8;obtain ⟨u8,zx,mI⟩:=hv 5 8 Z M;(try dsimp only at mI);obtain ⟨p8,y8,z8,rfl,RZ⟩:=mI;obtain ⟨a1,a2,a3,rfl⟩:=RZ.props.form;obtain ⟨a4,a5,a6,rfl⟩:=RZ.bD.form;obtain ⟨a7,a8,a9,rfl⟩:=RZ.layers.form;have H:=H.gU zx;obtain ⟨u11,I7,vB⟩:=hv 8 11 Z M;(try dsimp only at vB);obtain ⟨h11,xr,LV,Yb⟩:=vB;obtain ⟨rA,rc,rfl,-,-⟩:=LV.shape;have H:=H.gU I7;obtain ⟨u14,OB,vC⟩:=hv 11 14 Z M;(try dsimp only at vC);obtain ⟨qL,q14,y14,z14,rfl,OA⟩:=vC;obtain ⟨c1,c2,c3,rfl⟩:=OA.st.form;obtain ⟨c4,c5,c6,rfl⟩:=OA.li.form;obtain ⟨c7,c8,c9,rfl⟩:=OA.cm.form;obtain ⟨d1,d2,d3,rfl⟩:=OA.va.form;have H:=H.gU OB;clear hv;obtain ⟨⟨vF,LF⟩,eF⟩:∃ y,y=aP 2:=⟨_,M⟩;obtain ⟨⟨vR,LR⟩,eR⟩:∃ y,y=aP 8:=⟨_,M⟩;rw [<- eF,<- eR] at H;rw [<- eF] at LU h5;rw [<- eR] at LV h11;dsimp only at H LU LV h5 h11;subst h5;subst h11;rw [<- iL] at H;have H:=H.perm (uU (l₁:=LF++LR) (l₂:=[_]));dsimp only [lca,bM] at H;refine jM als [_,_,_,_,_,_,_,_,_,_,_] H wn M M M M ?_;clear H;intro a H;refine bJ jN 0 (vs:=[_,_,_,_,_,_,_,_,_,_,_]) H wn M ?_;clear H;intro w H;refine aD ⟨M,?_⟩;refine K2 _ _ ?_;clear K2;refine eP ?_;refine (leave1 H results63 (.cons (qM jN (cs:=[_,_,_,_,_,_,_,_,_,_,_]) H M M (H.hp.dG 0 M M)) .nil) ?_).1;exact H.hp.lW (L':=LF++LR) (DF _ _) ⟨⟨(fA,d.flow.length,fc),(a1,a2,a3),(a4,a5,a6),(a7,a8,a9),(rA,d.revs.length,rc),(c1,c2,c3),(c4,c5,c6),(c7,c8,c9),(d1,d2,d3),d.fin.marks.ins,d.fin.marks.move⟩,M,xf,LF,xr,LR,M,LU,Ya,LV,Yb,RZ,M,M,OA⟩
end Go.Proofs.YtdiflmikikiedaaGreat
