/-
  What the claim stands on, part 5: Utf Utf2 Cnu Vc Bo13 Par It Div Rc Nrm Pas L14 L14b L14c L14d L14e Sl Upo Rg16 Rws Itm Its Rvs Chd Ck13 Ct Nf Hds Np13 Nq13 Cut13 Rpf Odc Cx13 Cy13 Ni13 Mn Lay Srt Ms Ids Usd.
-/
import Derived.Test.YtdgnnpjijhafaaaGreatWbd
import Derived.Lib.MapLaws
import Derived.Lib.ValidLaws
import Derived.Lib.RuneBytes
import Derived.Lib.TrimUEq
import Derived.Shelf.SlIterI.Nil
import Derived.Shelf.SortM.Plain
import Derived.Shelf.SortM.SortNone
namespace Go.Proofs.YtdgnnpjijhafaaaGreat
set_option linter.all false
open Go.Proofs.Tryz
open Go.RowKit
theorem Uo{s:ByteArray}{a n:Nat}:∀(f k:Nat)(low high p:Int),(mG s a n f k low high p).2.2=true->k<=n->n<=k+f->
  (mG s a n f k low high p).2.1=n∧∀j,k<=j->j<n->a+j<s.size∧(if j=k then low<=eO s (a+j)∧eO s (a+j)<=high else 128<=eO s (a+j)∧eO s (a+j)<=191)
 |0,k,low,high,p,_,h1,h2=>by
  have hk:k=n:=by omega
  subst hk;exact⟨by rw[mG],fun j hj hj2=>by omega⟩
 |f+1,k,low,high,p,h,h1,h2=>by
  rw[mG]at h|-
  by_cases hn:n<=k
  ·rw[ay hn];exact⟨by dsimp only;omega,fun j hj hj2=>by omega⟩
  rw[au hn]at h|-
  by_cases hb:s.size<=a+k∨eO s (a+k)<low∨high<eO s (a+k)
  ·rw[ay hb]at h;cases h
  rw[au hb]at h|-;obtain⟨e1,e2⟩:=Uo f (k+1) 128 191 _ h O O;refine⟨e1,fun j hj hj2=>?_⟩
  by_cases hjk:j=k
  ·subst hjk;rw[ay M];omega
  rw[au hjk];have:=e2 j O hj2
  split at this
  ·omega
  exact this
theorem JE{s:ByteArray}{i:Nat}(h:i<s.size):eO s i=((s.get! i).toNat:Int):=by
 have e:s.get! i=s[i]:=by
  unfold ByteArray.get!
  exact getElem!_pos s.data i h
 rw[lN h,e]
theorem Bf{s:ByteArray}{i:Nat}(hi:i<s.size)(h:(iO s i).2.2=true):(Utf8.decode s i).2=(iO s i).2.1∧¬((Utf8.decode s i).1=65533∧(Utf8.decode s i).2=1)∧
  (∀j,0<j->j<(iO s i).2.1->i+j<s.size∧128<=eO s (i+j)∧eO s (i+j)<=191)∧¬(128<=eO s i∧eO s i<=191):=by
 have hb:=JE hi;have hlt:(s.get! i).toNat<256:=(s.get! i).toNat_lt;obtain⟨B,hB⟩:∃B,B=(s.get! i).toNat:=⟨_,M⟩;rw[<-hB]at hb hlt
 unfold iO at h|-
 simp only at h|-
 have ht:jo (eO s i)=jo (B:Int):=by rw[hb]
 rw[ht]at h|-
 by_cases c1:B<128
 ·have e3:(jo (B:Int)).2.2=1:=by simp only[jo];rw[iw]
  rw[bQ,ay e3]
  have hd:Utf8.decode s i=(B,1):=by
   unfold Utf8.decode
   simp only[oZ,<-hB]
   rw[iw]
  rw[hd];exact⟨M,by simp;omega,fun j h1 h2=>by simp at h2;omega,O⟩
 by_cases c2:B<194∨244<B
 ·have e3:(jo (B:Int)).2.2=0:=by simp only[jo];rw[bQ,iw]
  rw[ay e3]at h;cases h
 by_cases c3:B<224
 ·have e3:(jo (B:Int)).2.2=2:=by simp only[jo];rw[bQ,bQ,iw]
  have e1:(jo (B:Int)).1=128∧(jo (B:Int)).2.1=191:=by simp only[jo];refine⟨?_,?_⟩<;>(rw[bQ,bQ])
  rw[bQ,bQ,e3,e1.1,e1.2]at h|-;obtain⟨q1,q2⟩:=Uo _ _ _ _ _ h Z Z;have b1:=q2 1 Z Z;rw[ay M]at b1;have g1:=JE b1.1;obtain⟨B1,hB1⟩:∃B1,B1=(s.get! (i+1)).toNat:=⟨_,M⟩;rw[<-hB1]at g1;rw[q1]
  have hd:Utf8.decode s i=((B%32)*64+B1%64,2):=by
   unfold Utf8.decode
   simp only[oZ,<-hB,<-hB1]
   rw[bQ,ay (by simp[b1.1];omega),iw]
  rw[hd];refine⟨M,by simp,fun j h1 h2=>?_,O⟩
  obtain rfl:j=1:=by have:j<2:=h2;omega
  exact⟨b1.1,b1.2⟩
 by_cases c4:B<240
 ·have e3:(jo (B:Int)).2.2=3:=by simp only[jo];rw[bQ,bQ,bQ,iw]
  have e1:128<=(jo (B:Int)).1∧(jo (B:Int)).2.1<=191∧(B=224->(jo (B:Int)).1=160)∧(B=237->(jo (B:Int)).2.1=159):=by
   simp only[jo]
   refine⟨?_,?_,fun e=>?_,fun e=>?_⟩
   ·exact Pq
   ·exact Pq
   ·rw[iw]
   rw[iw]
  obtain⟨lo,hlo⟩:∃x,x=(jo (B:Int)).1:=⟨_,M⟩;obtain⟨hi',hhi⟩:∃x,x=(jo (B:Int)).2.1:=⟨_,M⟩;rw[bQ,bQ,e3,<-hlo,<-hhi]at h|-;rw[<-hlo,<-hhi]at e1;obtain⟨q1,q2⟩:=Uo _ _ _ _ _ h Z Z;have b1:=q2 1 Z Z;have b2:=q2 2 Z Z;rw[ay M]at b1;rw[au Z]at b2;have g1:=JE b1.1;have g2:=JE b2.1;obtain⟨B1,hB1⟩:∃B1,B1=(s.get! (i+1)).toNat:=⟨_,M⟩;obtain⟨B2,hB2⟩:∃B2,B2=(s.get! (i+2)).toNat:=⟨_,M⟩;rw[<-hB1]at g1;rw[<-hB2]at g2;rw[q1]
  have hv:Utf8.valid (((B%16)*4096+(B1%64)*64+B2%64:Nat):Int)=true:=by
   simp only[Utf8.valid,Bool.or_eq_true,kV,qm]
   have aJE:=e1.2.2.2
   omega
  have hd:Utf8.decode s i=((B%16)*4096+(B1%64)*64+B2%64,3):=by
   unfold Utf8.decode
   simp only[oZ,<-hB,<-hB1,<-hB2]
   have aJD:=e1.2.2.1;rw[bQ,au (by simp;omega),ay (by simp[b1.1,b2.1];omega),ay (by simp only[kV,qm];exact⟨O,hv⟩)]
  rw[hd];refine⟨M,by simp,fun j h1 h2=>?_,O⟩;have h2':j<3:=h2
  rcases(show j=1∨j=2 by omega)with rfl|rfl
  ·exact⟨b1.1,O,O⟩
  exact⟨b2.1,b2.2⟩
 have e3:(jo (B:Int)).2.2=4:=by simp only[jo];rw[bQ,bQ,bQ,bQ]
 have e1:128<=(jo (B:Int)).1∧(jo (B:Int)).2.1<=191∧(B=240->(jo (B:Int)).1=144)∧(B=244->(jo (B:Int)).2.1=143):=by
  simp only[jo]
  refine⟨?_,?_,fun e=>?_,fun e=>?_⟩
  ·exact Pq
  ·exact Pq
  ·rw[bQ,iw]
  rw[bQ,iw]
 obtain⟨lo,hlo⟩:∃x,x=(jo (B:Int)).1:=⟨_,M⟩;obtain⟨hi',hhi⟩:∃x,x=(jo (B:Int)).2.1:=⟨_,M⟩;rw[bQ,bQ,e3,<-hlo,<-hhi]at h|-;rw[<-hlo,<-hhi]at e1;obtain⟨q1,q2⟩:=Uo _ _ _ _ _ h Z Z;have b1:=q2 1 Z Z;have b2:=q2 2 Z Z;have b3:=q2 3 Z Z;rw[ay M]at b1;rw[au Z]at b2 b3;have g1:=JE b1.1;have g2:=JE b2.1;have g3:=JE b3.1;obtain⟨B1,hB1⟩:∃B1,B1=(s.get! (i+1)).toNat:=⟨_,M⟩;obtain⟨B2,hB2⟩:∃B2,B2=(s.get! (i+2)).toNat:=⟨_,M⟩;obtain⟨B3,hB3⟩:∃B3,B3=(s.get! (i+3)).toNat:=⟨_,M⟩;rw[<-hB1]at g1;rw[<-hB2]at g2;rw[<-hB3]at g3;rw[q1];have aJF:=e1.2.2.1;have aJG:=e1.2.2.2
 have hv:Utf8.valid (((B%8)*262144+(B1%64)*4096+(B2%64)*64+B3%64:Nat):Int)=true:=by
  simp only[Utf8.valid,Bool.or_eq_true,kV,qm]
  omega
 have hd:Utf8.decode s i=((B%8)*262144+(B1%64)*4096+(B2%64)*64+B3%64,4):=by
  unfold Utf8.decode
  simp only[oZ,<-hB,<-hB1,<-hB2,<-hB3]
  rw[bQ,au (by simp;omega),au (by simp;omega),ay (by simp[b1.1,b2.1,b3.1];omega),ay (by simp only[kV,qm];exact⟨O,hv⟩)]
 rw[hd];refine⟨M,by simp,fun j h1 h2=>?_,O⟩;have h2':j<4:=h2
 rcases(show j=1∨j=2∨j=3 by omega)with rfl|rfl|rfl
 ·exact⟨b1.1,O,O⟩
 ·exact⟨b2.1,b2.2⟩
 exact⟨b3.1,b3.2⟩
theorem yD{s:ByteArray}{i:Nat}(h:gq s i<0)(hi:i<s.size):(iO s i).2.2=true∧gq s (i+(iO s i).2.1)<0:=by
 rw[gq,dif_pos hi]at h
 split at h
 ·rename_i h2;exact⟨h2,h⟩
 omega
theorem Cn{s:ByteArray}{i:Nat}(h:gq s i<0)(hi:i<s.size):0<(iO s i).2.1∧i+(iO s i).2.1<=s.size:=by
 have h1:=(yD h hi).1;have h2:=(Qb s i hi).2 h1
 omega
theorem apO{s:ByteArray}{f i:Nat}(hf:s.size-i<=f)(hi:i<s.size):Ez s f i=(i,(Utf8.decode s i).1)::Ez s (f-1) (i+(Utf8.decode s i).2):=by
 match f,hf with
 |0,hf=>omega
 |f+1,_=>rw[Ez,ay hi];rfl
theorem adw{s:ByteArray}{f i:Nat}(hi:¬i<s.size):Ez s f i=[]:=by
 match f with
 |0=>rfl
 |f+1=>rw[Ez,au hi]
def Er(s:ByteArray)(i:Nat):Bool:=decide (¬(128<=eO s i∧eO s i<=191))
theorem azW{s:ByteArray}{i n:Nat}(h0:Er s i=true)(h1:∀j,0<j->j<n->Er s (i+j)=false)(hn:0<n):(List.range' i n).filter (Er s)=[i]:=by
 obtain⟨k,rfl⟩:∃k,n=k+1:=⟨n-1,O⟩;rw[List.range'_succ,List.filter_cons,ay h0]
 have:(List.range' (i+1) k).filter (Er s)=[]:=by
  rw[List.filter_eq_nil_iff];intro a ha;rw[List.mem_range'_1]at ha;have:=h1 (a-i) O O;rw[show i+(a-i)=a by omega]at this
  simp[this]
 rw[this]
theorem afz{s:ByteArray}:∀(q i f:Nat),s.size-i<=q->s.size-i<=f->gq s i<0->i<=s.size->(List.range' i<|s.size-i).filter (Er s)=(Ez s f i).map (·.1)
 |0,i,f,hq,_,_,_=>by rw[adw O,show s.size-i=0 by omega];rfl
 |q+1,i,f,hq,hf,h,hle=>by
  by_cases hi:i<s.size
  ·have hs:=yD h hi;have hd:=Cn h hi;have he:=Bf hi hs.1;obtain⟨n,hn⟩:∃n,n=(iO s i).2.1:=⟨_,M⟩;rw[<-hn]at hs hd he;rw[apO hf hi,dV,he.1,<-afz q (i+n) (f-1) O O hs.2 O];rw[show s.size-i=n+(s.size-(i+n)) by omega,<-List.range'_append_1,List.filter_append]
   rw[azW (by simp only[Er,qm];exact he.2.2.2) (fun j h1 h2=>by
    have:=he.2.2.1 j h1 h2
    simp only[Er,Ci,nL];exact this.2) hd.1]
   rfl
  rw[adw O,show s.size-i=0 by omega];rfl
def KT(s:ByteArray):List Nat:=(KW s).map (·.1)++[s.size]
def YG(s:ByteArray):List Nat:=(List.range s.size).filter (Er s)++[s.size]
theorem aue{s:ByteArray}(hv:iI s=true):YG s=KT s:=by
 have hf:gq s 0<0:=by simpa[iI]using hv
 rw[YG,KT,KW,<-afz _ 0 s.size (eP _) O hf (fP _),List.range_eq_range']
 rfl
def gD(s:ByteArray):Nat->Nat->Nat
 |i,0=>i
 |i,j+1=>if i<s.size then gD s (i+(Utf8.decode s i).2) j else i
theorem Cb{s:ByteArray}:∀(j i:Nat),gq s i<0->i<=s.size->i<=gD s i j∧gD s i j<=s.size
 |0,i,_,h=>⟨eP _,h⟩
 |j+1,i,hf,h=>by
  rw[gD]
  split
  ·rename_i hi
   have hd:=Cn hf hi;have he:=Bf hi (yD hf hi).1;have:=Cb j (i+(Utf8.decode s i).2) (by rw[he.1];exact(yD hf hi).2) O
   omega
  omega
theorem afb{s:ByteArray}:∀(j i f:Nat),s.size-i<=f->gq s i<0->i<=s.size->j<=(Ez s f i).length->((Ez s f i).map (·.1)++[s.size])[j]?=some (gD s i j)
 |j,i,f,hf,h,hle,hj=>by
  by_cases hi:i<s.size
  ·have hd:=Cn h hi;have he:=Bf hi (yD h hi).1;rw[apO hf hi]at hj|-
   cases j with
   |zero=>rfl
   |succ j=>
    rw[gD,ay hi,dV,jl,List.getElem?_cons_succ];exact afb j (i+(Utf8.decode s i).2) (f-1) O (by rw[he.1];exact(yD h hi).2) O (by simpa using hj)
  rw[adw hi]at hj|-
  simp at hj;subst hj
  have:i=s.size:=by omega
  simp[gD,this]
theorem Yv{s:ByteArray}:∀(u i:Nat),gq s i<0->i<=s.size->gq s (gD s i u)<0
 |0,i,h,_=>h
 |u+1,i,h,hle=>by
  rw[gD];split
  ·rename_i hi
   have hd:=Cn h hi;have he:=Bf hi (yD h hi).1;exact Yv u _ (by rw[he.1];exact(yD h hi).2) O
  exact h
theorem Yr{s:ByteArray}:∀(u i v:Nat),gD s i (u+v)=gD s (gD s i u) v
 |0,i,v=>by rw[fB];rfl
 |u+1,i,v=>by
  rw[show u+1+v=(u+v)+1 by omega,gD,gD]
  split
  ·exact Yr u _ v
  rename_i hi
  cases v with
  |zero=>rfl
  |succ v=>rw[gD,au hi]
theorem MN(s:ByteArray)(a b:Nat):(s.extract a b).data.toList=(s.data.toList.drop a).take (b-a):=by
 simp[ByteArray.data_extract]
theorem adi{s:ByteArray}(hv:iI s=true){u:Nat}(hu:u<=(KW s).length):(KT s)[u]?=some (gD s 0 u):=by
 have hf:gq s 0<0:=by simpa[iI]using hv
 exact afb u 0 s.size O hf (fP _) hu
set_option maxRecDepth 10000 in
theorem atS:∀X:Fin 256,rP .and .u8 ((X.val:Nat):Int) 192=128↔(128<=X.val∧X.val<=191):=by decide
theorem ajk{s:ByteArray}{i:Nat}(h:i<s.size):rP .and .u8 (eO s i) 192=128↔128<=eO s i∧eO s i<=191:=by
 have h1:=atS ⟨s[i].toNat,s[i].toNat_lt⟩;dsimp only at h1;rw[lN h,h1];omega
theorem ajj{s:ByteArray}:∀(t i:Nat),i+t<=s.size->(∀j,j<t->128<=eO s (i+j)∧eO s (i+j)<=191)->iM s i=iM s (i+t)
 |0,_,_,_=>rfl
 |t+1,i,h,hc=>by
  have ih:=ajj (s:=s) t (i+1) O fun j hj=>by have:=hc (j+1) O;rwa[show i+(j+1)=i+1+j by omega]at this
  have h0:=hc 0 O;rw[oZ]at h0;rw[iM.eq_def,ay (show i<s.size by omega),ay ((ajk O).2 h0),fB,ih]
  congr 1;omega
theorem aac{s:ByteArray}{i:Nat}(h:gq s i<0)(hi:i<s.size):iM s i=1+iM s (i+(iO s i).2.1):=by
 have hd:=Cn h hi;obtain⟨-,-,e3,e4⟩:=Bf hi (yD h hi).1
 rw[iM.eq_def,ay hi,au fun hc=>e4 ((ajk hi).1 hc),ajj (s:=s) ((iO s i).2.1-1) (i+1) O fun j hj=>by
  have:=e3 (j+1) O O
  rw[show i+1+j=i+(j+1) by omega];exact this.2]
 congr 2;omega
theorem PN{a b:ByteArray}{i:Nat}(h:i<a.size):eO (a++b) i=eO a i:=by
 rw[lN h,lN (by rw[ByteArray.size_append];omega),ByteArray.getElem_append_left h]
theorem ZQ(a b:ByteArray)(j:Nat):eO (a++b) (a.size+j)=eO b j:=by
 by_cases h:j<b.size
 ·rw[lN h,lN (by rw[ByteArray.size_append];omega),ByteArray.getElem_append_right O]
  congr 2
  simp
 unfold eO
 rw[dif_neg (by rw[ByteArray.size_append];omega),dif_neg h]
theorem aju{a b:ByteArray}{t n:Nat}:∀(f k:Nat)(low high p:Int),(mG a t n f k low high p).2.2=true->mG (a++b) t n f k low high p=mG a t n f k low high p
 |0,_,_,_,_,_=>rfl
 |f+1,k,low,high,p,h=>by
  unfold mG at h|-
  by_cases h1:n<=k
  ·rw[ay h1,ay h1]
  rw[au h1]at h;rw[au h1,au h1]
  by_cases h2:a.size<=t+k∨eO a (t+k)<low∨high<eO a (t+k)
  ·rw[ay h2]at h;cases h
  rw[au h2]at h
  have h3:t+k<a.size:=by omega
  rw[PN h3,au h2,au (by rw[ByteArray.size_append];omega)];exact aju f (k+1) _ _ _ h
theorem ajw(a b:ByteArray)(j n:Nat):∀(f k:Nat)(low high p:Int),mG (a++b) (a.size+j) n f k low high p=mG b j n f k low high p
 |0,_,_,_,_=>rfl
 |f+1,k,low,high,p=>by
  unfold mG
  have e:eO (a++b) (a.size+j+k)=eO b (j+k):=by rw[Nat.add_assoc];exact ZQ a b<|j+k
  have e2:((a++b).size<=a.size+j+k)↔(b.size<=j+k):=by rw[ByteArray.size_append];omega
  rw[e,ajw a b j n f]
  simp only[e2]
theorem Uq{a b:ByteArray}{i:Nat}(hi:i<a.size)(h:(iO a i).2.2=true):iO (a++b) i=iO a i:=by
 unfold iO at h|-
 simp only[PN hi]at h|-
 split
 ·rfl
 rename_i h1
 rw[au h1]at h
 split
 ·rfl
 rename_i h2
 rw[au h2]at h;exact aju _ _ _ _ _ h
theorem Qa(a b:ByteArray)(j:Nat):iO (a++b) (a.size+j)=iO b j:=by
 unfold iO
 simp only[ZQ,ajw]
theorem aAi(a b:ByteArray):∀(n j:Nat),b.size-j=n->gq b j<0->gq (a++b) (a.size+j)<0:=by
 intro n
 induction n using Nat.strongRecOn with
 |_ n ih=>
  intro j hn h;rw[gq]
  by_cases hj:j<b.size
  ·rw[gq,dif_pos hj]at h;rw[dif_pos (by rw[ByteArray.size_append];omega)]
   by_cases hd:(iO b j).2.2=true
   ·rw[dif_pos hd]at h;have hs:=(Qb b j hj).2 hd;rw[dif_pos (by rw[Qa];exact hd),Qa,Nat.add_assoc];exact ih _ O (j+(iO b j).2.1) M h
   rw[dif_neg hd]at h;omega
  rw[dif_neg (by rw[ByteArray.size_append];omega)];decide
theorem aAh(a b:ByteArray)(hb:gq b 0<0):∀(n i:Nat),a.size-i=n->i<=a.size->gq a i<0->gq (a++b) i<0:=by
 intro n
 induction n using Nat.strongRecOn with
 |_ n ih=>
  intro i hn hi h
  by_cases hj:i<a.size
  ·rw[gq,dif_pos hj]at h;rw[gq,dif_pos (by rw[ByteArray.size_append];omega)]
   by_cases hd:(iO a i).2.2=true
   ·rw[dif_pos hd]at h;have hs:=(Qb a i hj).2 hd;rw[dif_pos (by rw[Uq hj hd];exact hd),Uq hj hd];exact ih _ O (i+(iO a i).2.1) M hs.2 h
   rw[dif_neg hd]at h;omega
  obtain rfl:i=a.size:=by omega
  exact aAi a b b.size 0 M hb
theorem arT{a b:ByteArray}(ha:iI a=true)(hb:iI b=true):iI (a++b)=true:=by
 unfold iI at *
 exact kZ<|aAh a b (mW hb) a.size 0 M (fP _)<|mW ha
theorem Z9(a b:ByteArray):∀(n j:Nat),b.size-j=n->iM (a++b) (a.size+j)=iM b j
 |0,j,h=>by
  rw[iM.eq_def (a++b),iM.eq_def b,au (show¬a.size+j<(a++b).size by rw[ByteArray.size_append];omega),au (show¬j<b.size by omega)]
 |n+1,j,h=>by
  have ih:=Z9 a b n (j+1) O;rw[iM.eq_def (a++b),iM.eq_def b,ay (show a.size+j<(a++b).size by rw[ByteArray.size_append];omega),ay (show j<b.size by omega),ZQ,Nat.add_assoc,ih]
theorem ajh(a b:ByteArray):∀(n i:Nat),a.size-i=n->i<=a.size->iM (a++b) i=iM a i+iM b 0
 |0,i,h,hi=>by
  obtain rfl:i=a.size:=by omega
  rw[iM.eq_def a a.size,au (Nat.lt_irrefl _),fB];exact Z9 a b b.size 0 rfl
 |n+1,i,h,hi=>by
  have ih:=ajh a b n (i+1) O O;rw[iM.eq_def (a++b),iM.eq_def a i,ay (show i<(a++b).size by rw[ByteArray.size_append];omega),ay (show i<a.size by omega),PN (show i<a.size by omega),ih,Nat.add_assoc]
theorem P6{a b:ByteArray}(ha:iI a=true)(hb:iI b=true):dU (a++b)=dU a+dU b:=by
 unfold dU
 rw[ay ha,ay hb,ay<|arT ha hb];exact ajh a b a.size 0 M<|fP _
theorem yC{s:ByteArray}:iI s=true↔gq s 0<0:=by unfold iI;exact decide_eq_true_iff
theorem afc{a b:ByteArray}:∀(k j:Nat),gq b j<0->j<=b.size->gD (a++b) (a.size+j) k=a.size+gD b j k
 |0,j,_,_=>rfl
 |k+1,j,h,hj=>by
  rw[gD,gD]
  by_cases hi:j<b.size
  ·have hs:=yD h hi;have hd:=Cn h hi;have e1:=(Bf hi hs.1).1
   have hi2:a.size+j<(a++b).size:=by rw[ByteArray.size_append];omega
   have e2:=(Bf hi2 (by rw[Qa];exact hs.1)).1;rw[Qa]at e2;rw[ay hi,ay hi2,e1,e2,Nat.add_assoc,afc k _ hs.2 O]
  rw[au hi,au (by rw[ByteArray.size_append];omega)]
theorem Te{a b:ByteArray}:∀(k i:Nat),gq a i<0->i<=a.size->k<=iM a i->gD (a++b) i k=gD a i k
 |0,i,_,_,_=>rfl
 |k+1,i,h,hi,hk=>by
  by_cases hl:i<a.size
  ·have hs:=yD h hl;have hd:=Cn h hl;have hu:=aac h hl;have e1:=(Bf hl hs.1).1
   have hi2:i<(a++b).size:=by rw[ByteArray.size_append];omega
   have e2:=(Bf hi2 (by rw[Uq hl hs.1];exact hs.1)).1;rw[Uq hl hs.1]at e2;rw[gD,gD,ay hl,ay hi2,e1,e2];exact Te k _ hs.2 hd.2 O
  rw[iM.eq_def,au hl]at hk;omega
theorem Yu{s:ByteArray}:∀(q i:Nat),s.size-i<=q->gq s i<0->i<=s.size->gD s i (iM s i)=s.size
 |0,i,hq,_,hi=>by
  rw[iM.eq_def,bQ]
  show i=_;omega
 |q+1,i,hq,h,hi=>by
  by_cases hl:i<s.size
  ·have hs:=yD h hl;have hd:=Cn h hl;rw[aac h hl,Nat.add_comm,gD,ay hl,(Bf hl hs.1).1];exact Yu q _ O hs.2 hd.2
  rw[iM.eq_def,au hl]
  show i=_;omega
theorem ajg{s:ByteArray}:∀(k i:Nat),gq s i<0->i<=s.size->k<=iM s i->iM s (gD s i k)+k=iM s i
 |0,i,_,_,_=>rfl
 |k+1,i,h,hi,hk=>by
  by_cases hl:i<s.size
  ·have hs:=yD h hl;have hd:=Cn h hl;have hu:=aac h hl;have ih:=ajg k _ hs.2 hd.2 O;rw[gD,ay hl,(Bf hl hs.1).1]
   omega
  rw[iM.eq_def,au hl]at hk;omega
theorem ajt{a b:ByteArray}{t n:Nat}(h:t+n<=a.size):∀(f k:Nat)(low high p:Int),mG a t n f k low high p=mG (a++b) t n f k low high p
 |0,_,_,_,_=>rfl
 |f+1,k,low,high,p=>by
  unfold mG
  by_cases h1:n<=k
  ·rw[ay h1,ay h1]
  rw[au h1,au h1,PN (b:=b) (show t+k<a.size by omega),ajt (b:=b) h f]
  have e:((a++b).size<=t+k)↔(a.size<=t+k):=by rw[ByteArray.size_append];omega
  simp only[e]
theorem ajv(s:ByteArray)(t n:Nat):∀(f k:Nat)(low high p:Int),n<=k+f->(mG s t n f k low high p).2.2=true->n<=(mG s t n f k low high p).2.1
 |0,k,_,_,_,h,_=>by simp only[mG];omega
 |f+1,k,low,high,p,h,ht=>by
  unfold mG at ht|-
  by_cases h1:n<=k
  ·rw[ay h1];exact h1
  rw[au h1]at ht|-
  by_cases h2:s.size<=t+k∨eO s (t+k)<low∨high<eO s (t+k)
  ·rw[ay h2]at ht;cases ht
  rw[au h2]at ht|-;exact ajv s t n f (k+1) _ _ _ O ht
theorem awE{a b:ByteArray}{i:Nat}(hi:i<a.size)(h:(iO (a++b) i).2.2=true)(hw:i+(iO (a++b) i).2.1<=a.size):iO a i=iO (a++b) i:=by
 have ht:=Xd<|eO a i
 unfold iO at h hw|-
 simp only[PN hi]at h hw|-
 by_cases h0:(jo<|eO a i).2.2=0
 ·rw[ay h0,ay h0]
 rw[au h0]at h hw|-;rw[au h0]
 by_cases h1:(jo<|eO a i).2.2=1
 ·rw[ay h1,ay h1]
 rw[au h1]at h hw|-;rw[au h1];have hn:=ajv (a++b) i _ _ _ _ _ _ O h;exact ajt O _ _ _ _ _
theorem apA{a b:ByteArray}:∀(k i:Nat),gq (a++b) i<0->i<=a.size->gD (a++b) i k=a.size->gq a i<0
 |0,i,_,_,e=>by
  have:i=a.size:=e;rw[gq,dif_neg O];omega
 |k+1,i,h,hi,e=>by
  by_cases hl:i<a.size
  ·have hl2:i<(a++b).size:=by rw[ByteArray.size_append];omega
   have hs:=yD h hl2;have hd:=Cn h hl2;rw[gD,ay hl2,(Bf hl2 hs.1).1]at e;have hle:=Cb k _ hs.2 hd.2;have e2:=awE hl hs.1 O;have ih:=apA k _ hs.2 O e;rw[gq,dif_pos hl,dif_pos (by rw[e2];exact hs.1),e2];exact ih
  rw[gq,dif_neg hl];omega
theorem arf{a b:ByteArray}:∀(q j:Nat),b.size-j<=q->gq (a++b) (a.size+j)<0->gq b j<0
 |0,j,hq,_=>by rw[gq,dif_neg O];omega
 |q+1,j,hq,h=>by
  by_cases hj:j<b.size
  ·have hl2:a.size+j<(a++b).size:=by rw[ByteArray.size_append];omega
   have hs:=yD h hl2;have hd:=Cn h hl2;rw[Qa]at hs hd;rw[gq,dif_pos hj,dif_pos hs.1];exact arf q _ O (by rw[<-Nat.add_assoc];exact hs.2)
  rw[gq,dif_neg hj];omega
def oP(s:ByteArray)(k:Nat):ByteArray:=s.extract 0 (gD s 0 k)
def qQ(s:ByteArray)(k:Nat):ByteArray:=s.extract (gD s 0 k) s.size
theorem arx{s:ByteArray}(hv:iI s=true)(k:Nat):oP s k++qQ s k=s∧(oP s k).size=gD s 0 k:=by
 have hf:=yC.1 hv;have ha:=Cb k 0 hf<|fP _;refine⟨?_,by rw[oP,ByteArray.size_extract];omega⟩;refine ByteArray.ext<|Array.ext' ?_;rw[ByteArray.data_append,Array.toList_append,oP,qQ,MN,MN];have hz:s.data.toList.length=s.size:=sQ;rw[xI,Nat.sub_zero,jX (l:=s.data.toList.drop _) (by rw[List.length_drop];omega),List.take_append_drop]
theorem Sg{s:ByteArray}(hv:iI s=true){k:Nat}(hk:k<=dU s):iI (oP s k)=true∧iI (qQ s k)=true∧dU (oP s k)=k∧dU (qQ s k)+k=dU s:=by
 obtain⟨e,hz⟩:=arx hv k;have hf:=yC.1 hv;obtain⟨a,ha⟩:∃a,a=oP s k:=⟨_,M⟩;obtain⟨b,hb⟩:∃b,b=qQ s k:=⟨_,M⟩;rw[<-ha]at e hz|-;rw[<-hb]at e|-
 have hc:iM s 0=dU s:=by unfold dU;rw[ay hv]
 have h1:=ajg k 0 hf (fP _) O;have Qw:gD s 0 k=a.size:=hz.symm;have hok:=Yv k 0 hf<|fP _;rw[Qw]at h1 hok;subst e;have va:iI a=true:=yC.2<|apA k 0 hf (fP _) Qw;have vb:iI b=true:=yC.2<|arf b.size 0 O hok;have h2:=Z9 a b b.size 0 M
 have hcb:iM b 0=dU b:=by unfold dU;rw[ay vb]
 have h3:=P6 va vb;rw[oZ]at h2;refine⟨va,vb,O,O⟩
theorem atz{a b:ByteArray}(ha:iI a=true)(hb:iI b=true)(k:Nat):gD (a++b) 0 k=if k<=dU a then gD a 0 k else a.size+gD b 0 (k-dU a):=by
 have hf:=yC.1 ha
 have hc:iM a 0=dU a:=by unfold dU;rw[ay ha]
 by_cases hk:k<=dU a
 ·rw[ay hk];exact Te k 0 hf (fP _) O
 rw[au hk,show k=dU a+(k-dU a) by omega,Yr,Te (dU a) 0 hf (fP _) O,<-hc,Yu a.size 0 O hf<|fP _];have:=afc (a:=a) (b:=b) (k-iM a 0) 0 (yC.1 hb)<|fP _;rw[oZ]at this;rw[this]
 congr 2;omega

theorem aaw:aW 243:=aX func243 M
def fO:Nat->List ah->List (Nat×ah)
 |_,[]=>[]
 |o,x::l=>(o,x)::fO (o+bO x) l
def KE(a:Nat×ah):AP:=fun args g=>∃cs,args=[vi a.1,.agg cs.toArray]∧bg g a.2.dat cs
theorem VX{A:List (Nat×ah)}{k:Nat}{args:List aj}{g:GH}(h:zD (A.map KE) k args g):∃(hk:k<A.length)(cs:List aj),args=[vi A[k].1,.agg cs.toArray]∧bg g A[k].2.dat cs:=by
 exact aik
theorem adj:∀(l:List ah)(o:Nat),(fO o l).length=l.length
 |[],_=>rfl
 |x::l,o=>by simp[fO,adj l]
theorem Xq(x:ah):bO x<bY x.dat:=by
 have:=lY x;have h2:=Fu x.text
 unfold bO;split <;>omega
theorem agt {p:Prop} (h:p:=by
 first
  |exact H.hp.lU (L':=aeF) (by repeat(first|exact nW _|apply List.Sublist.cons)) (.inr (hb2 (by simpa using h18)))
  | exact H.hp.gX (.inl (by have:=gy.len;rw [mh O] at this;simp only [fO,List.length_nil,oZ] at this;(try rw [bM]);rw [<- this];exact gy.now))):p:=h
set_option maxHeartbeats 1000000 in
theorem aEb{G:GH}{bd:Nat}{l:List ah}{v:aj}(hb:aJ G bd 0=some v)(hv:av G (.sl 11<|l.map ah.dat) v)(hz:aR l<=4294967290) :
  Iter prog G (.func (.func 243) #[] #[aK bd 0]) ((fO 0 l).map KE):=by
 intro J Jx fv G1 L w0 hfv hGi wK hJx hJ hO hcb;refine kJ (caps:=[aK bd 0]) aaw ?_;obtain⟨A,c,rfl,hc1,hc2,hg⟩:=hv.slice;rw[bM]at *;have hll:=wo l;replace hb:=aH hGi hb;refine iY (N:=28) (T:=[(0,_),(1,_)]) func243 M ntmps243 M M hO ?_;intro a H;refine kP H (SR fun _ K1=>ak K1 M<|SR fun _ K2=>Rg eG M (by assumption) ?_);clear H K1;intro a H;refine kH H<|Rl dM M<|Rm M<|Kz K2<|SB ?_;clear H K2;intro a H;skip;refine dY (ι:=Nat×Nat×Nat×OL×GH) (Tc:=[(0,_),(8,_),(9,_)]) (Lc:=[]) (fun gh=>[(3,vi gh.2.1),(10,vi gh.1)]) (fun gh=>[]++gh.2.2.2.1) (fun gh=>gh.2.2.2.2) (fun gh=>gh.1<=l.length∧(∀b o,G1 b=some o->gh.2.2.2.2 b=some o)∧Now ((fO 0 l).map KE) KE J (fO 0 l).length gh.2.2.1 (fO gh.2.1<|l.drop gh.1) gh.2.2.2.2 gh.2.2.2.1∧gh.2.1+aR (l.drop gh.1)<=4294967290) (fun gh=>l.length-gh.1) ((0,0,0,L,G1)) (by exact H.sub ⟨M,M,M,M,M,aC⟩) ?_ ?_
 ·exact⟨O,fun _ _ h=>h,⟨hJ,fun i a h=>by rw[fB,ql];rw[xI]at h;rw[h];rfl,by simp⟩,by simp;omega⟩
 clear H;rintro⟨k,at_,j1,Lt,g⟩ a w hI H;dsimp only at hI H;obtain⟨hk,hgm,gy,hat⟩:=hI;dsimp only[lca,bq]at H;refine bU<|fun _ K1=>?_;skip;refine kP H (SC<|Rc M<|Kn K1<|SQ fun _ K2=>Cd M ?_ ?_)<;>clear H K1
 ·intro h11 a H
  try have pR:=dT h11
  have hk2:k<l.length:=by omega
  obtain⟨b,o,pA,pn,pc,dA,dn,dc,yA,yn,yc,fA,fn,fc,rA,rn,rc,rfl,hrow,hhd,hfl,hrw⟩:=vI hk2 hg;have Vn:∀b o,G b=some o->g b=some o:=fun b o h=>hgm b o<|hGi b o h;replace hrow:=fun j u hj=>aH Vn<|hrow j u hj;have hsz2:=I8<|ig hk2;have hn1:=Xq l[k];have hzi:=lY l[k];rw[mg hk2]at gy hat;rw[aR,dV,fE]at hat;rw[fO]at gy;refine kP H<|Kc K2<|SQ fun _ K1=>SB<|SR fun _ K3=>Ri dM bL M M ?_;clear H K2;intro a H;refine aY bL (cs:=[_,_,_,_,_,_,_,_,_,_,_]) H wn M M (fun j v hj=>H.hp.aJ<|hrow j v hj) M ?_;clear H;intro a H;refine dK bL H wn M ?_;clear H;intro b5 a w hb5 H;refine bH bL 0 (vs:=[_,_,_,_,_,_,_,_,_,_,_]) H wn M ?_;clear H;intro w H;refine K3 _ _ ?_;clear K3;refine kP H<|SQ fun _ K2=>SR fun _ K3=>Rm M<|Rm M ?_;clear H;intro a H;refine aY bL (cs:=[_,_,_,_,_,_,_,_,_,_,_]) H wn M M (H.hp.dB 0 M M) M ?_;clear H;intro a H;refine BM (Li:=[_]) (L:=Lt) H wn M M (hcb j1 _ _ _ _ ⟨_,gy.head,_,M,bg.mkItem (hhd.mono Vn) (hfl.mono Vn)<|hrw.mono Vn⟩ hgm gy.now<|Hp.owns (Li:=[_]) H.hp) M ?_;clear H;rintro v17 DT aeF a w ⟨b17,rfl,hb1,hb2⟩ xX H;refine kH H (Rn M<|Kz K3<|Cd M ?_ ?_)<;>clear H K3
  ·intro h18 a H
   try have pU:=dT h18
   refine eH ?_;refine(leave0 H results243 ?_).1
   exact agt
  intro h18 a H
  try have pU:=dF h18
  refine fU ?_;refine K2 _ _ ?_;clear K2;refine dw<|fun _ K2=>?_;refine aY bL (cs:=[_,_,_,_,_,_,_,_,_,_,_]) H wn M M (H.hp.dB 0 M M) M ?_;clear H;intro a H;refine s_call Uw H wn M (Xt _ _ H.ro _ _ _ _ _ _ _ _ _ _ O) M ?_;clear H;rintro v21 _ a w ⟨rfl,rfl⟩-H;refine kH H<|Rm M ?_;clear H;intro a H;(iterate 2 refine iH H wn M M M ?_;clear H;intro a H);refine kH H<|Ra M<|ak K2 M<|SC<|Rm M<|Rm M<|Rd M<|bZ K1 M<|SC<|Rd M<|Rm M ?_;clear H K2 K1;intro a H;refine aI ?_;refine dO ((k+1,at_+bO l[k],j1+1,aeF,DT)) (by exact(H.dR (Pl:=[_]) (dH:=[]) [] Z M).sub ⟨M,M,M,M,M,aC⟩) ?_
  (try dsimp only);exact⟨O,fun b o h=>xX b o (hgm b o h),gy.step (hb1 (by simpa using h18)),by show at_+bO l[k]+fE ((l.drop<|k+1).map ah.dat)<=4294967290;omega⟩
 intro h11 a H
 try have pR:=dF h11
 refine dS ?_;refine(leave0 H results243 ?_).2
 exact agt
theorem anV(G:GH)(w0:World)(hG:Hold G w0)(l:List ah)(v:aj)(hv:av G (.sl 11<|l.map ah.dat) v)(hz:aR l<=4294967290) :
  Calls prog 202 #[v] w0 (bD w0 G fun u G'=>∃bd,u=.func (.func 243) #[] #[aK bd 0]∧Iter prog G' u ((fO 0 l).map KE)):=by
 obtain⟨A,c,rfl,hc1,hc2,hg⟩:=hv.slice;refine eN [(0,_)] func202 M ntmps202 M M hG fun a H=>dw<|fun _ K1=>eD (cs:=[_]) H wn M M M fun b1 a w hb1 H=>kH H<|ak K1 M<|SR fun _ K2=>fun a H=>wU H wn M M<|ak K2 M fun a H=>eH ?_;obtain⟨G2,hm2,hb1,H⟩:=H.eX;exact lv H results202 M (H.rt ⟨b1,M,aEb (by unfold aJ;rw[hb1];rfl) (hv.mono hm2) hz⟩)
theorem ajX:aW 202:=aX func202 M
def rC(t:Int)(a:Nat×ah):Bool:=decide ((a.1:Int)+bO a.2<=t)
def lA(t:Int)(A:List (Nat×ah)):List ah:=(A.filter (rC t)).map (·.2)
def rA(t:Int)(A:List (Nat×ah)):List ah:=(A.filter fun a=>!rC t a).map (·.2)
theorem aha {p:Prop} (h:p:=by
 rw [ji hk];simp only [lA,rA,List.filter_append,iy];simp [h]):p:=h
theorem aEu{t:Int}{A:List (Nat×ah)}{k:Nat}(hk:k<A.length)(h:rC t A[k]=true):lA t (A.take<|k+1)=lA t (A.take k)++[A[k].2]∧rA t (A.take<|k+1)=rA t (A.take k):=by
 exact aha
theorem aEt{t:Int}{A:List (Nat×ah)}{k:Nat}(hk:k<A.length)(h:rC t A[k]=false):lA t (A.take<|k+1)=lA t (A.take k)∧rA t (A.take<|k+1)=rA t (A.take k)++[A[k].2]:=by
 exact aha
theorem aEs(t:Int)(A:List (Nat×ah)):(lA t A).length<=A.length:=by simp only[lA,bM];exact List.length_filter_le _ _
theorem aF7(t:Int)(A:List (Nat×ah)):(rA t A).length<=A.length:=by simp only[rA,bM];exact List.length_filter_le _ _
def wR(t:Int)(l:List ah):List ah:=lA t (fO 0 l)
def Dl(t:Int)(l:List ah):List ah:=rA t (fO 0 l)
theorem adk:∀{l:List ah}{o:Nat}{a:Nat×ah},a∈fO o l->a.2∈l∧a.1+bY a.2.dat<=o+aR l
 |[],_,_,h=>by cases h
 |x::l,o,a,h=>by
  rw[fO]at h;have hu:=Xq x
  rcases iL.1 h with rfl|h
  ·exact⟨fJ,by simp only[aR,dV,fE];omega⟩
  obtain⟨h1,h2⟩:=adk h;exact⟨gH _ h1,by simp only[aR,dV,fE]at *;omega⟩
theorem agu {p:Prop} (h:p:=by
 exact ⟨VI,by rw [hxl];exact (hcl.mono uw).snoc (hcs.mono uw) M,hrr,hcr.mono uw⟩):p:=h
theorem agv {p:Prop} (h:p:=by
 exact ⟨hrl,hcl.mono uw,VJ,by rw [NI];exact (hcr.mono uw).snoc (hcs.mono uw) M⟩):p:=h
theorem agw {p:Prop} (h:p:=by
 exact awO M HT hG hv H):p:=h
theorem Ua {p:Prop} (h:p:=by
 refine QY ((vl,vr,xl,xr,Ll,Lr)) _ _ _ _ _ (by exact H.dR (Pl:=[_,_,_,_,_]) (dH:=[_,_,_,_]) [0,2,3,4] Z M) ?_;exact hI):p:=h
theorem ahZ {p:Prop} (h:p:=by
 intro aZ a w G1 _ aM hc hG HT hv;have H:=HT;clear aM;have H:=H.aQ (hv 0 72 (hc 0 Z) M) M;have Hb:=H.full;have H:=Hb;clear hc;refine bH eG 2 (vs:=[_]) H wn M ?_;clear H;intro w H;refine aI ⟨M,?_⟩;exact agw):p:=h
theorem aia {p:Prop} (h:p:=by
 intro aZ a w G1 _ aM hc hG HT hv;have H:=HT;clear aM;have H:=H.aQ (hv 1 73 (hc 1 Z) M) M;have Hb:=H.full;have H:=Hb;clear hc;refine bH eG 3 (vs:=[_]) H wn M ?_;clear H;intro w H;refine aI ⟨M,?_⟩;exact agw):p:=h
theorem Ur(G:GH)(w0:World)(hG:Hold G w0)(l:List ah)(t:Int)(v:aj)(hv:av G (.sl 11<|l.map ah.dat) v)(hz:aR l<=1073741824)(hcut:∀a∈fO 0 l,rC t a=true∨t<=a.1) :
  Calls prog 146 #[v,vi t] w0 (bD w0 G fun u G'=>∃x y,u=.tuple #[x,y]∧av G' (.sl 11 ((wR t l).map ah.dat)) x∧av G' (.sl 11 ((Dl t l).map ah.dat)) y):=by
 have hml:4294967297<=maxLen:=by decide
 have hll:=wo l;have hol:=adj l 0;obtain⟨A,hA⟩:∃A,A=fO 0 l:=⟨_,M⟩;refine eN [(0,_),(1,_)] func146 M ntmps146 M M hG ?_;intro a H;refine dw<|fun _ K1=>?_;refine eD (cs:=[_]) H wn M M M ?_;clear H;intro b3 a w hb3 H;refine dK eG H wn M ?_;clear H;intro b4 a w hb4 H;refine dK eG H wn M ?_;clear H;intro b5 a w hb5 H;refine K1 _ _ ?_;clear K1;refine kP H<|SQ fun _ K1=>SR fun _ K2=>Rm M ?_;clear H;intro a H;refine s_call ajX H wn M (anV _ _ H.ro l v hv O) M ?_;clear H;rintro v14 DR a w ⟨bd,rfl,hit⟩ Bv H;rw[<-hA]at hit hcut hol;refine K2 _ _ ?_;clear K2;refine xK ?_;skip;refine PS (ι:=aj×aj×List aj×List aj×OL×OL) (κ:=Empty) (Lc:=[(_,_)]) (fun(k:Nat)(gh:aj×aj×List aj×List aj×OL×OL)=>[(b4,.cells #[gh.1] 22 (0,0)),(b5,.cells #[gh.2.1] 22 (0,0))]) (fun(k:Nat)(gh:aj×aj×List aj×List aj×OL×OL)=>gh.2.2.2.2.1++gh.2.2.2.2.2) (fun(k:Nat)(gh:aj×aj×List aj×List aj×OL×OL)(g:GH)=>bT 118 11 gh.1 (lA t<|A.take k).length gh.2.2.1 gh.2.2.2.2.1∧bR g 11 ((lA t<|A.take k).map ah.dat) gh.2.2.1∧bT 118 11 gh.2.1 (rA t<|A.take k).length gh.2.2.2.1 gh.2.2.2.2.2∧bR g 11 ((rA t<|A.take k).map ah.dat) gh.2.2.2.1) (fun x=>x.elim) (fun x=>x.elim) (fun x=>x.elim) (fun x=>x.elim) ((.slice none 0 0,.slice none 0 0,[],[],[],[])) (by exact(H.NV (A:=[_,_,_])).dR (Pl:=[_,_,_]) (dH:=[_,_,_]) [2,1,0] Z M) M aaw (hit) (fun _ _ h=>h) M (fun k args g h=>by obtain⟨_,_,rfl,_⟩:=VX h;rfl) (fun k i G G' hm h=>⟨h.1,h.2.1.mono hm,h.2.2.1,h.2.2.2.mono hm⟩) (fun x=>x.elim) (⟨bT.nil,bR.nil,bT.nil,bR.nil⟩) ?_ ?_ ?_
 ·clear H;intro l2 Dj zQ bk k args gh G2 w2 F2 B2 a hk2 hm2 hI Qz QY acj H;obtain⟨vl,vr,xl,xr,Ll,Lr⟩:=gh;dsimp only at hI H;obtain⟨hk,cs,rfl,hcs⟩:=VX hk2;obtain⟨-,hza⟩:=adk (l:=l) (o:=0) (a:=A[k]) (by rw[<-hA];exact ig hk);have hzi:=lY A[k].2;have hun:=Xq A[k].2;have hlk:=aEs t<|A.take k;have Im:=aF7 t<|A.take k;rw[List.length_take]at hlk Im;obtain⟨pA,pn,pc,dA,dn,dc,yA,yn,yc,fA,fn,fc,vg,rn,rc,rfl,hh,hf,hr⟩:=hcs.item;dsimp only[yJ,List.cons_append,List.nil_append]at H;obtain⟨hrl,hcl,hrr,hcr⟩:=hI;refine kP H<|SR fun _ K2=>ak K2 M<|SC ?_;clear H K2;intro a H;refine dK bL H wn M ?_;clear H;intro b7 a w Bt H;refine bH bL 0 (vs:=[_,_,_,_,_,_,_,_,_,_,_]) H wn M ?_;clear H;intro w H;refine aI ?_;refine Qz _ _ _ _ _ _ (by exact H.dR (Pl:=[_,_,_,_,_]) (dH:=[_,_,_,_,_]) [1,0,2,3,4] Z M) ?_;clear H;intro w H;refine xK ?_;refine dw<|fun _ K2=>?_;refine aY bL (cs:=[_,_,_,_,_,_,_,_,_,_,_]) H wn M M (H.hp.dB 1 M M) M ?_;clear H;intro a H;refine s_call Uw H wn M (Xt _ _ H.ro A[k].2 _ _ _ _ _ _ _ _ _ O) M ?_;clear H;rintro v19 _ a w ⟨rfl,rfl⟩-H;refine kH H<|Rm M ?_;clear H;intro a H;(iterate 2 refine iH H wn M M M ?_;clear H;intro a H);refine kH H (Ra M<|ak K2 M<|SB<|SR fun _ K3=>Rm M<|Rm M<|Rd M<|Ro aF 2 M<|Rc M<|ak K3 M<|Cd M ?_ ?_)<;>clear H K2 K3
  ·intro h50 a H
   try have p50:=dT h50
   have hfit:rC t A[k]=true:=h50;obtain⟨e1,e2⟩:=aEu hk hfit;obtain⟨vA,vc,rfl,-,-⟩:=hrl.shape;have H:=H.perm<|Ob [_,_,_,_,_] bk Ll Lr;refine Uf (i0:=3) (i1:=1) hmx V dM eG bL M M M M M V M Z H M M M M M M hrl O O ?_;clear H;intro vl Ll sN a w uw VI H;have H:St _ _ _ _ _ _ ([_,_,_,_,_]++(bk++(Ll++Lr))) _ _ _:=H.perm (Ob [_,_,_,_,_] bk Ll Lr).symm;dsimp only[lca,bq]at H;obtain⟨xl,hxl⟩:∃x,x=xl++[vi A[k].2.kind,vi A[k].2.code,vi A[k].2.id,.string A[k].2.text,.slice pA pn pc,vi A[k].2.head.marks.ins,vi A[k].2.head.marks.move,.slice dA dn dc,.slice yA yn yc,.slice fA fn fc,.slice vg rn rc]:=⟨_,M⟩;rw[<-hxl]at VI
   have hI:bT 118 11 vl (lA t<|A.take<|k+1).length xl Ll∧bR sN 11 ((lA t<|A.take<|k+1).map ah.dat) xl∧bT 118 11 vr (rA t<|A.take<|k+1).length xr Lr∧bR sN 11 ((rA t<|A.take<|k+1).map ah.dat) xr:=by
    rw[e1,e2,gT,iy];exact agu
   exact Ua
  intro h50 a H
  try have p50:=dF h50
  have hfit:rC t A[k]=false:=h50;obtain⟨e1,e2⟩:=aEt hk hfit;refine kP H (SR fun _ K2=>Rm M<|Ro aF 2 M<|Rc M<|ak K2 M<|Cd M ?_ ?_)<;>clear H K2
  ·intro CG a H
   try have p62:=dT CG
   obtain⟨vA,vc,rfl,-,-⟩:=hrr.shape;have H:=H.cast<|Oa [_,_,_,_,_] bk Ll Lr;refine Uf (i0:=4) (i1:=1) hmx V dM eG bL M M M M M V M Z H M M M M M M hrr O O ?_;clear H;intro vr Lr sN a w uw VJ H;have H:St _ _ _ _ _ _ ([_,_,_,_,_]++(bk++(Ll++Lr))) _ _ _:=H.cast (Oa [_,_,_,_,_] bk Ll Lr).symm;dsimp only[lca,bq]at H;obtain⟨xr,NI⟩:∃x,x=xr++[vi A[k].2.kind,vi A[k].2.code,vi A[k].2.id,.string A[k].2.text,.slice pA pn pc,vi A[k].2.head.marks.ins,vi A[k].2.head.marks.move,.slice dA dn dc,.slice yA yn yc,.slice fA fn fc,.slice vg rn rc]:=⟨_,M⟩;rw[<-NI]at VJ
   have hI:bT 118 11 vl (lA t<|A.take<|k+1).length xl Ll∧bR sN 11 ((lA t<|A.take<|k+1).map ah.dat) xl∧bT 118 11 vr (rA t<|A.take<|k+1).length xr Lr∧bR sN 11 ((rA t<|A.take<|k+1).map ah.dat) xr:=by
    rw[e1,e2,gT,iy];exact agv
   exact Ua
  intro CG a H
  try have p62:=dF CG
  exact absurd (hcut _<|ig hk) (by rw[hfit];simp only[zJ,false_or];omega)
 ·clear H;intro XM gh XV a w hm2 hI H;obtain⟨vl,vr,xl,xr,Ll,Lr⟩:=gh;dsimp only at hI H;dsimp only[lca,bq]at H;obtain⟨hrl,hcl,hrr,hcr⟩:=hI;rw[show A.take (A.map KE).length=A by rw[bM,oI]]at hrl hcl hrr hcr;obtain⟨lA0,lc0,rfl,-,-⟩:=hrl.shape;obtain⟨rA0,rc0,rfl,-,-⟩:=hrr.shape;refine K1 _ _ ?_;clear K1;refine bU<|fun _ K1=>?_;refine dI hmx [[],[],[0],[0,1,2]] [] V [.slice lA0 (lA t A).length lc0,.slice rA0 (rA t A).length rc0] H (aD (Z0 M<|Ro eG 2 M) (Z0 M<|Ro eG 3 M) ?_ ?_ dz) ?_
  ·exact ahZ
  ·exact aia
  clear H;intro a w G xU H hv;clear hv;refine aI ⟨M,?_⟩;refine K1 _ _ ?_;clear K1;refine eH ?_;obtain⟨Jd,Ei,hgr,H⟩:=St.qy (Li:=[_,_,_,_]++Ll) (St.un (A:=[_,_,_,_]) H) hrr (rows:=(rA t A).map ah.dat) (by simp)<|hcr.mono xU;obtain⟨BZ,ny,hgl,H⟩:=St.qy (Li:=[_,_,_,_]) H hrl (rows:=(lA t A).map ah.dat) (by simp) ((hcl.mono xU).mono Ei);replace hgr:=hgr.mono ny;refine(Iu H 0 M ?_).1;clear H;intro a w H;dsimp only[List.eraseIdx_cons_succ,List.eraseIdx_cons_zero]at H;refine(gV H results146 (.cons (AA eG H M<|H.hp.sD 1 M M) (.cons (AA eG H M<|H.hp.sD 2 M M) .nil)) ?_).1;exact H.rt ⟨_,_,M,by rw[wR,<-hA];exact hgl,by rw[Dl,<-hA];exact hgr⟩
 intro Dk x;exact x.elim
theorem bT.ptr{e sz n c:Nat}{A:Option Addr}{xs:List aj}{Lo:OL}(h:bT e sz (.slice A n c) n xs Lo)(hn:0<n):∃b,A=some ⟨b,0,none⟩:=by
 rcases h.2 with⟨_,h0,_⟩|⟨b,cap,cur,he,_⟩
 ·omega
 ·injection he with e1;exact⟨b,e1⟩
theorem bT.at{w0 w:World}{F:Nat->Prop}{G0 G:GH}{L Lo:OL}{e sz n c b o:Nat}{xs:List aj}(h:bT e sz (.slice (some ⟨b,o,none⟩) n c) n xs Lo)(H:Hp w0 F G0 G L w)(hsub:∀x∈Lo,x∈L){i:Nat}{u:aj}(hi:xs[i]?=some u):w.cell? ⟨b,i,none⟩=some u:=by
 rcases h.2 with⟨h1,_⟩|⟨b2,cap,cur,he,hl,h1,h2,h3,h4⟩
 ·cases h1
 ·injection he with e1
  injection e1 with e1
  injection e1 with e1
  subst e1
  refine H.Iy (c:=cur) (e:=e) (fz:=(0,0)) (hsub _ (by rw[hl];exact List.mem_singleton_self _)) ?_
  have hx:i<xs.length:=(jJ.1 hi).1
  rw[h.1]at hx
  rw[<-h4,xG,ay hx,Array.getElem?_toList]at hi
  exact hi
theorem flat_get{sz:Nat}:∀{css:List (List aj)}{k:Nat}(hk:k<css.length)(h:∀cs∈css,cs.length=sz)(j:Nat),j<sz->css.flatten[k*sz+j]?=css[k][j]?
 |c::css,0,_,h,j,hj=>by
  rw[List.flatten_cons,Nat.zero_mul,fB,List.getElem_cons_zero,xH (by rw[h c fJ];exact hj)]
 |c::css,k+1,hk,h,j,hj=>by
  have ih:=flat_get (css:=css) (k:=k) (by simpa using hk) (fun cs hc=>h cs<|gH _ hc) j hj
  rw[List.flatten_cons,List.getElem_cons_succ,uQ (by rw[h c fJ,Nat.succ_mul];omega),h c fJ,show(k+1)*sz+j-sz=k*sz+j by rw[Nat.succ_mul];omega]
  exact ih
theorem bR.at{G:GH}{sz:Nat}{rows:List (List Dat)}{xs:List aj}(h:bR G sz rows xs){k:Nat}{r:List Dat}(hk:rows[k]?=some r):∃cs,cs.length=sz∧(∀j u,cs[j]?=some u->xs[k*sz+j]?=some u)∧bg G r cs:=by
 obtain⟨css,rfl,h2,h3⟩:=h
 have hkl:k<css.length:=by rw[h2];exact(jJ.1 hk).1
 obtain⟨hr,hl⟩:=h3 k r css[k] hk<|gF hkl
 refine⟨css[k],hl,fun j u hj=>?_,hr⟩
 rw[flat_get hkl (fun cs hc=>?_) j (by rw[<-hl];exact(jJ.1 hj).1)]
 ·exact hj
 ·obtain⟨i,hi,rfl⟩:=List.getElem_of_mem hc
  exact(h3 i rows[i] css[i] (gF O)<|gF hi).2
theorem JK:aW 99:=aX func99 M
theorem ajT:aW 169:=aX func169 M
theorem agx {p:Prop} (h:p:=by
 exact kP H (SR fun _ K2=>Rm M (ak K2 M (LR results169 M fun H=>H.rt (hv.mono uw))))):p:=h
theorem awG(G:GH)(w0:World)(hG:Hold G w0)(A:Option Addr)(n c:Nat)(fv:aj)(hv:av G (.sl 6 []) (.slice A n c)) :
  Calls prog 169 #[.slice A n c,fv] w0 (bD w0 G fun u G'=>av G' (.sl 6 []) u):=by
 refine eN [(0,_),(1,_)] func169 M ntmps169 M M hG (SR fun _ K1=>ak K1 M (SR fun _ K2=>Rm M (Rm M fun a H=>s_call ajR H wn M (anS _ _ H.ro [] (fun _=>true) _ _ hv<|fun x h=>by cases h) rfl ?_)));rintro v10 sN a w rfl uw H;refine kH H (ak K2 M<|SQ fun _ K1=>SR fun _ K3=>Rm M<|Rc M<|Kz K3<|Cd M ?_ ?_)<;>clear H K2 K3
 ·intro h12 a H;exact agx
 intro h12 a H;exact absurd h12 Z
theorem aFB(G:GH)(w0:World)(hG:Hold G w0)(A:Option Addr)(n c:Nat)(hv:av G (.sl 11 []) (.slice A n c)) :
  Calls prog 99 #[.slice A n c] w0 (bD w0 G fun u G'=>av G' (.sl 11 []) u):=by
 have hn:n=0:=hv.len;refine eN [(0,_)] func99 M ntmps99 M M hG ?_;intro a H;refine kP H<|SR fun _ K1=>ak K1 M<|SR fun _ K2=>ak K2 M<|SQ fun _ K3=>SR fun _ K4=>Rm M<|Rl dM M<|Rm M<|Kz K4<|SB ?_;clear H K1 K2 K4;intro a H;skip;refine dY (ι:=Unit) (Tc:=[(7,_),(8,_)]) (Lc:=[]) (fun gh=>[(3,.slice none 0 0),(9,vi 0)]) (fun gh=>[]) (fun gh=>G) (fun gh=>True) (fun gh=>0) (()) (by exact H.sub ⟨M,M,M,M,aC⟩) ?_ ?_
 ·trivial
 clear H;intro u a w hI H;skip;dsimp only[lca,bq]at H;refine kP H (SR fun _ K1=>Rc M<|Kz K1<|SQ fun _ K2=>Cd M ?_ ?_)<;>clear H K1
 ·intro h10 a H
  try have lC:=dT h10
  exact absurd lC (by rw[hn];decide)
 intro h10 a H
 refine dS ?_;refine K3 _ _ ?_;clear K3;exact kP H<|SR fun _ K1=>Rm M<|ak K1 M<|LR results99 M fun H=>H.rt<|av.nT M Z
def aeJ(x:ah):Prop:=x.flow=[]∧x.rows=[]∧¬x.kind=7∧(x.kind=1->¬x.text.toList=[])
def O4(l:List ah):Prop:=∀(k:Nat)(h:k+1<l.length),¬(l[k].kind=1∧l[k+1].kind=1∧l[k].head=l[k+1].head)
theorem O4.one{l:List ah}(h:l.length<=1):O4 l:=fun k hk=>by omega
theorem agy {p:Prop} (h:p:=by
 exact bg.mkItem (CU.mono fun b o h=>rW b o (rV b o (mJ b o h))) (by rw [e1];exact Q8.mono fun b o h=>rW b o (rV b o h)) (by rw [e2];exact Nv)):p:=h
theorem auJ {p:Prop} (h:p:=by
 exact ⟨0,(⟨[],⟨0,0,[],[]⟩⟩,0),.slice none 0 0,.slice none 0 0,.slice none 0 0,fun h=>by omega⟩):p:=h
theorem agz {p:Prop} (h:p:=by
 exact fin H iJ (by show _=_;first|rfl|exact cO (fun A=>Value.slice A k vc) (Exists.elim (Ao c2) fun _ h=>h.1))):p:=h
theorem TH {p:Prop} (h:p:=by
 exact ⟨O,NC,by rw [hA1];exact (gK.mono (fun b o h=>nZ b o (rW b o (rV b o (mJ b o (xV b o h)))))).snoc (FT.mono nZ) (by rw [vM];rfl),fun b o h=>nZ b o (rW b o (rV b o (mJ b o (xV b o (hgm b o h)))))⟩):p:=h
theorem Py {p:Prop} (h:p:=by
 refine fu 9 62 7 60 M M fun _ a w G1 hG HT H fin=>?_;refine EH _ H (wg H M M (aG c2)) M M M O O M ?_;clear H;intro a H;exact YS):p:=h
theorem ahQ {p:Prop} (h:p:=by
 by_cases h0:0<k
 ·obtain⟨bo,hbo⟩:=hrw.ptr h0;obtain⟨cs,hcl,hcx,hcr⟩:=Ka.at (k:=k-1) (r:=l[k-1].dat) (by rw[xG,iw];simp[show k-1<l.length by omega]);obtain⟨qA,qn,qc,sA,sn,sc,tA,tn,tc,JL,JQ,JM,rA2,WM,rc2,rfl,hh,-,-⟩:=hcr.item;refine⟨bo,(l[k-1].head,l[k-1].kind),.slice qA qn qc,.slice sA sn sc,.slice tA tn tc,fun _=>⟨O,hbo,M,hcx 0 _ M,hh,fun j u hj=>?_⟩⟩;rw[Nat.add_assoc]
  exact hcx (4+j) u (by
   match j,hj with
   |0,hj=>exact hj
   |1,hj=>exact hj
   |2,hj=>exact hj
   |3,hj=>exact hj
   | 4,hj=>exact hj)
 exact auJ):p:=h
theorem aiB {p:Prop} (h:p:=by
 intro c1 c2 c3 e;obtain⟨hk1,-,hpk,-⟩:=Ao c2;have hjk:=hj (k-1) O;rw[hpk]at e c3
 simp only[show k-1+1=k by omega]at hjk
 exact hjk ⟨c3,c1,e⟩):p:=h
theorem agU {p:Prop} (h:p:=by
 refine iE 7 60 M M fun _ a w G1 hG HT H fin=>?_;refine kH H (YM (aG c2) M ?_);clear H;intro a H;exact agz):p:=h
theorem Zg {p:Prop} (h:p:=by
 refine fu 23 76 16 69 M M fun _ a w G1 hG HT H fin=>?_;refine aY oC (cs:=[_,_,_,_,_]) H (wg H M M (aG c3)) M M (H.hp.dB 0 M M) M ?_;exact jD):p:=h
theorem ahp {p:Prop} (h:p:=by
 refine fu 12 65 7 60 M M fun _ a w G1 hG HT H fin=>?_;obtain ⟨_,rfl,_,hkd,_⟩:=Ao c2;refine vo aF H (wg H M M (aG c2)) M (hrw.at H.hp (fun x hx=>gH _ hx) (by rw [fB];exact hkd)) M ?_;exact jD):p:=h
theorem Zr {p:Prop} (h:p:=by
 refine fu 18 71 16 69 M M fun _ a w G1 hG HT H fin=>?_;exact Zf):p:=h
set_option maxHeartbeats 2000000 in
theorem aFC(G:GH)(w0:World)(hG:Hold G w0)(l:List ah)(v:aj)(hv:av G (.sl 11<|l.map ah.dat) v)(hj:O4 l)(hp:∀x∈l,aeJ x)(hz:aR l<=1073741824) :
  Calls prog 99 #[v] w0 (bD w0 G fun u G'=>av G' (.sl 11<|l.map ah.dat) u):=by
 obtain⟨A,c,rfl,hc1,hc2,hg⟩:=hv.slice
 have hml:4294967297<=maxLen:=by decide
 have hll:l.length<=aR l:=Nat.le_trans (NP l)<|Dt l;rw[bM]at *;refine eN [(0,_)] func99 M ntmps99 M M hG ?_;intro a H;refine kP H<|SR fun _ K1=>ak K1 M<|SR fun _ K2=>ak K2 M<|SQ fun _ K3=>SR fun _ K4=>Rm M<|Rl dM M<|Rm M<|Kz K4<|SB ?_;clear H K1 K2 K4;intro a H;skip;refine dY (ι:=Nat×aj×List aj×OL×GH) (Tc:=[(7,_),(8,_)]) (Lc:=[]) (fun gh=>[(3,gh.2.1),(9,vi gh.1)]) (fun gh=>[]++gh.2.2.2.1) (fun gh=>gh.2.2.2.2) (fun gh=>gh.1<=l.length∧bT 118 11 gh.2.1 gh.1 gh.2.2.1 gh.2.2.2.1∧bR gh.2.2.2.2 11 ((l.map ah.dat).take gh.1) gh.2.2.1∧(∀b o,G b=some o->gh.2.2.2.2 b=some o)) (fun gh=>l.length-gh.1) ((0,.slice none 0 0,[],[],G)) (by exact H.sub ⟨M,M,M,M,aC⟩) ?_ ?_
 ·exact TA
 clear H;rintro⟨k,v,xs,Lo,g⟩ a w hI H;dsimp only at hI H;obtain⟨hk,hrw,gK,hgm⟩:=hI;dsimp only[lca,bq]at H;refine kP H (SR fun _ K1=>Rc M<|Kz K1<|SQ fun _ K2=>Cd M ?_ ?_)<;>clear H K1
 ·intro h10 a H
  try have lC:=dT h10
  have hk2:k<l.length:=by omega
  obtain⟨vA,vc,rfl,-,-⟩:=hrw.shape;obtain⟨b,o,pA,pn,pc,dA,dn,dc,yA,yn,yc,fA,fn,fc,rA,rn,rc,rfl,hrow,hhd,hfl,hrs⟩:=vI hk2 hg;replace hrow:=fun j u hj=>aH hgm<|hrow j u hj;obtain⟨e1,e2,e3,e4⟩:=hp _<|ig hk2;have hzi:=GK hk2;rw[e1]at hfl;rw[e2]at hrs;refine kP H<|Kc K2<|SQ fun _ K1=>SB<|SR fun _ K4=>Ri dM bL M M ?_;clear H K2;intro a H;refine aY bL (cs:=[_,_,_,_,_,_,_,_,_,_,_]) H wn M M (fun j v hj=>H.hp.aJ<|hrow j v hj) M ?_;clear H;intro a H;refine dK bL H wn M ?_;clear H;intro b5 a w hb5 H;refine bH bL 0 (vs:=[_,_,_,_,_,_,_,_,_,_,_]) H wn M ?_;clear H;intro w H;refine K4 _ _ ?_;clear K4;refine kP H<|SR fun _ K2=>Rf vG M ?_;clear H;intro a H;refine aY oC (cs:=[_,_,_,_,_]) H wn M M (H.hp.dB 0 M M) M ?_;clear H;intro a H;refine s_call Qe H wn M (PY _ _ H.ro _ _ _ _ _ _ _ _ _ _ (hhd.mono hgm) O) M ?_;clear H;rintro v15 Jc a w ⟨vP,d15,l15,rfl,CU⟩ xV H;obtain⟨a1,a2,a3,rfl⟩:=CU.props.form;obtain⟨a4,a5,a6,rfl⟩:=CU.dQ.form;obtain⟨a7,a8,a9,rfl⟩:=CU.layers.form;refine kH H<|Rf vG M ?_;clear H;intro a H;refine bH oC 0 (vs:=[_,_,_,_,_]) H wn M ?_;clear H;intro w H;refine K2 _ _ ?_;clear K2;refine kP H<|SR fun _ K2=>aV uU eG 0 M M ?_;clear H;intro a H;refine s_call JK H wn M (aFB _ _ H.ro _ _ _<|hfl.mono fun b o h=>xV b o<|hgm b o h) M ?_;clear H;rintro v19 LK a w Q8 mJ H;obtain⟨GQ,n19,c19,rfl⟩:=Q8.form;refine kH H<|Rf uU M ?_;clear H;intro a H;refine bH eG 0 (vs:=[_]) H wn M ?_;clear H;intro w H;refine K2 _ _ ?_;clear K2;refine kP H<|SR fun _ K2=>aV mZ lX 0 M M ?_;clear H;intro a H;refine s_call aap H wn M (ajE _ _ H.ro [] _ _ (hrs.mono fun b o h=>mJ b o<|xV b o<|hgm b o h) Z<|fun x h=>by cases h) rfl ?_;clear H;rintro v23 Je a w Nu rV H;obtain⟨A23,n23,c23,rfl⟩:=Nu.form;refine s_call ajT H wn M (awG _ _ H.ro _ _ _ _ Nu) M ?_;clear H;rintro v24 yF a w Nv rW H;obtain⟨LA,n24,c24,rfl⟩:=Nv.form;refine kH H<|Rf mZ M ?_;clear H;intro a H;refine bH lX 0 (vs:=[_]) H wn M ?_;clear H;intro w H;refine K2 _ _ ?_;clear K2;refine kP H (SR fun _ K2=>Rm M<|Rl dM M<|ak K2 M<|SB<|SR fun _ K4=>aV iW aF 0 M M<|Rc M<|Rm M<|Sp 36 M ?_ ?_)<;>clear H K2
  ·intro lS a H
   try have p36:=dT lS
   exact absurd p36 e3
  intro lS a H
  try have p36:=dF lS
  refine kH H<|aU lS M<|aU lS M<|Pf lS M<|Rm M ?_;clear H;intro a H;refine Oj iW H (wg H M M M) M M ?_;clear H;intro a H;refine vo aF H (wg H M M M) M (H.hp.sD 0 M M) M ?_;clear H;intro a H;refine KX H (wg H M M M) M M M M ?_;clear H;intro a H;refine IQ H (wg H M M M) M M ?_;clear H;intro a H;refine WU H 46 M ?_ ?_
  ·intro h46
   try have p46:=dT h46
   refine kH H<|YF pE h46 M<|YO gN 0 h46 M ?_;clear H;intro a H;refine BN H (wg H M M h46) M M M ?_;clear H;intro a H;refine Ol H (wg H M M M) M h46 M M ?_;clear H;intro a H;refine kH H (Pf M M<|ak K4 M<|Cd M ?_ ?_)<;>clear H K4
   ·intro h32 a H
    exact absurd h32 (by simpa using e4 p46)
   intro h32 a H
   try have p32:=dF h32
   refine bU<|fun _ K2=>?_;obtain⟨xL,vM⟩:∃x,x=[vi l[k].kind,vi l[k].code,vi l[k].id,.string l[k].text,.slice a1 a2 a3,vi l[k].head.marks.ins,vi l[k].head.marks.move,.slice a4 a5 a6,.slice a7 a8 a9,.slice GQ n19 c19,.slice LA n24 c24]:=⟨_,M⟩
   have FT:bg yF l[k].dat xL:=by
    rw[vM];exact agy
   have hA1:(l.map ah.dat).take (k+1)=(l.map ah.dat).take k++[l[k].dat]:=by rw[ji (by simpa using hk2)];simp
   have Ka:=gK.mono fun b o h=>rW b o<|rV b o<|mJ b o<|xV b o h
   obtain⟨bo,pk,pp,pd,pl,Ao⟩:∃(bo:Nat)(pk:fI×Int)(pp pd pl:aj),0<(k:Int)->∃(h:k-1<l.length),vA=some ⟨bo,0,none⟩∧pk=(l[k-1].head,l[k-1].kind)∧xs[(k-1)*11]?=some (vi pk.2)∧kr yF pk.1 pp pd pl∧∀j u,[pp,vi pk.1.marks.ins,vi pk.1.marks.move,pd,pl][j]?=some u->xs[(k-1)*11+4+j]?=some u:=by
    exact ahQ
   have QZ:l[k].kind=1->0<(k:Int)->pk.2=1->¬pk.1=l[k].head:=by
    exact aiB
   have c1:l[k].kind=1:=p46
   by_cases c2:0<(k:Int)
   ·skip
    by_cases c3:pk.2=1
    ·skip;refine dI hmx [[],[0],[0,1],[0,1,2],ra 0 4,ra 0 5,ra 0 6,ra 0 7,ra 0 8,ra 0 8,ra 0 8++[9],ra 0 11,ra 0 12,ra 0 13,ra 0 14,ra 0 15,ra 0 16,ra 0 17,ra 0 17,ra 0 17++[18],ra 0 20,ra 0 21,ra 0 22,ra 0 17,ra 0 17++[23],ra 0 25,ra 0 26,ra 0 27] [] V [_,vi l[k].kind,_,_,_,_,_,_,.slice (some ⟨bo,0,none⟩) k vc,_,vi ((k-1:Nat):Int),_,_,vi pk.2,_,_,_,.slice (some ⟨bo,0,none⟩) k vc,_,vi ((k-1:Nat):Int),_,_,wN pk.1 pp pd pl,_,wN l[k].head (.slice a1 a2 a3) (.slice a4 a5 a6) (.slice a7 a8 a9),.bool false,_,_] H (aD (Z0 M<|Rf iW M) (Z1 0 53 M<|Ro aF 0 M) (Z1 1 54 M<|Rc M) (Z1 2 55 M<|Rm M)<|aD (Z1 3 56 M<|YM (aG c1) M) (Z2 4 57 3 56 M<|YC (aG c1) M) (Z2 3 56 5 58 M<|Pt (aG c1) M) (Z1 6 59 M<|Rm M)<|aD ?_ (Z1 7 60 M<|YM (aG c2) M) ?_ (Z3 8 61 10 63 7 60 M<|YI dM bL (aG c2) M M)<|aD (Z2 11 64 7 60 M<|YF iW (aG c2) M) ?_ (Z2 13 66 7 60 M<|YC (aG c2) M) (Z2 7 60 14 67 M<|Pt (aG c2) M)<|aD (Z1 15 68 M<|Rm M) ?_ (Z1 16 69 M<|YM (aG c3) M) ?_<|aD (Z3 17 70 19 72 16 69 M<|YI dM bL (aG c3) M M) (Z2 20 73 16 69 M<|YF vG (aG c3) M) ?_ (Z1 16 69 M<|YF vG (aG c3) M)<|aD ?_ ?_ (Z2 16 69 25 78 M<|Pt (aG c3) M) (Z1 26 79 M<|Ra M) dz) ?_
     ·exact agU
     ·exact Py
     ·exact ahp
     ·refine iE 16 69 M M fun _ a w G1 hG HT H fin=>?_;refine kH H<|YM (aG c3) M ?_;clear H;intro a H;exact agz
     ·exact Zr
     ·refine fu 21 74 16 69 M M fun _ a w G1 hG HT H fin=>?_;obtain⟨_,rfl,_,_,_,hhx⟩:=Ao c2;refine aY oC (cs:=[pp,vi pk.1.marks.ins,vi pk.1.marks.move,pd,pl]) H (wg H M M<|aG c3) M M (fun j u hj=>hrw.at H.hp (fun x hx=>gH _ hx) (by rw[fB];exact hhx j u hj)) M ?_;exact jD
     ·exact Zg
     ·refine xC 22 75 24 77 16 69 M M fun _ a w G1 hG HT H fin=>?_;refine s_call Qf H (wg H M M<|aG c3) M (Qg _ _ H.ro pk.1 l[k].head _ _ _ _ _ _ (by obtain⟨_,_,_,_,hh,_⟩:=Ao c2;exact hh.mono hG)<|CU.mono fun b o h=>hG b o<|rW b o<|rV b o<|mJ b o h) M ?_;clear H;rintro v78 G78 a w rfl abl H;exact fin H abl (by show _=_;first|rfl|exact iN<|mE<|QZ c1 c2 c3)
     clear H;intro a w G nZ H hv;have H:=H.aQ (hv 27 52 M M) M;clear hv;refine aI ⟨M,?_⟩;refine K2 _ _ ?_;clear K2;refine oJ H M M ?_;refine kP H<|SC<|Rm M ?_;clear H;intro a H;refine aY bL (cs:=[_,_,_,_,_,_,_,_,_,_,_]) H wn M M (H.hp.dB 0 M M) M ?_;clear H;intro a H;refine iT dM bL [_,_,_,_,_,_,_,_,_,_,_] [_,_,_,_,_,_,_,_,_,_,_] H wn M M M M M (by intro i q h;match i,h with|0,h=>exact h|n+1,h=>simp at h) M M ?_;clear H;intro Tn a w Vh H;refine lW (Li:=[_,_]) (Lo:=Lo) (news:=xL) dM bL M M H wn M M hrw (by rw[vM];rfl) (by rw[vM];exact H.hp.dB 0 M M) FT.one O O M ?_;clear H;intro v31 EY a w NC H;refine kH H<|bZ K1 M<|SC<|Rd M<|Rm M ?_;clear H K1;intro a H;refine aI ?_;refine dO ((k+1,v31,xs++xL,EY,G)) (by exact(H.dR (Pl:=[_,_]) (dH:=[]) [] Z M).sub ⟨M,M,M,M,aC⟩) ?_
     (try dsimp only);exact TH
    skip;refine dI hmx [[],[0],[0,1],[0,1,2],ra 0 4,ra 0 5,ra 0 6,ra 0 7,ra 0 8,ra 0 8,ra 0 8++[9],ra 0 11,ra 0 12,ra 0 13,ra 0 14,ra 0 15,ra 0 16,ra 0 17,ra 0 17,ra 0 17++[18],ra 0 20,ra 0 21,ra 0 22,ra 0 17,ra 0 17++[23],ra 0 25,ra 0 26,ra 0 27] [] V [_,vi l[k].kind,_,_,_,_,_,_,.slice (some ⟨bo,0,none⟩) k vc,_,vi ((k-1:Nat):Int),_,_,vi pk.2,_,_,_,undef,undef,undef,undef,undef,undef,undef,undef,undef,_,_] H (aD (Z0 M<|Rf iW M) (Z1 0 53 M<|Ro aF 0 M) (Z1 1 54 M<|Rc M) (Z1 2 55 M<|Rm M)<|aD (Z1 3 56 M<|YM (aG c1) M) (Z2 4 57 3 56 M<|YC (aG c1) M) (Z2 3 56 5 58 M<|Pt (aG c1) M) (Z1 6 59 M<|Rm M)<|aD ?_ (Z1 7 60 M<|YM (aG c2) M) ?_ (Z3 8 61 10 63 7 60 M<|YI dM bL (aG c2) M M)<|aD (Z2 11 64 7 60 M<|YF iW (aG c2) M) ?_ (Z2 13 66 7 60 M<|YC (aG c2) M) (Z2 7 60 14 67 M<|Pt (aG c2) M)<|aD (Z1 15 68 M<|Rm M) (aL 16 (aO c3) M M) (aL 16 (aO c3) M M) (aL 16 (aO c3) M M)<|aD (aL 16 (aO c3) M M) (aL 16 (aO c3) M M) (aL 16 (aO c3) M M) (aL 16 (aO c3) M M)<|aD (aL 16 (aO c3) M M) (aL 16 (aO c3) M M) (Z2 16 69 25 78 M<|Pf (aO c3) M) (Z1 26 79 M<|Ra M) dz) ?_
    ·exact agU
    ·exact Py
    ·exact ahp
    clear H;intro a w G nZ H hv;have H:=H.aQ (hv 27 52 M M) M;clear hv;refine aI ⟨M,?_⟩;refine K2 _ _ ?_;clear K2;refine oJ H M M ?_;refine kP H<|SC<|Rm M ?_;clear H;intro a H;refine aY bL (cs:=[_,_,_,_,_,_,_,_,_,_,_]) H wn M M (H.hp.dB 0 M M) M ?_;clear H;intro a H;refine iT dM bL [_,_,_,_,_,_,_,_,_,_,_] [_,_,_,_,_,_,_,_,_,_,_] H wn M M M M M (by intro i q h;match i,h with|0,h=>exact h|n+1,h=>simp at h) M M ?_;clear H;intro Tn a w Vh H;refine lW (Li:=[_,_]) (Lo:=Lo) (news:=xL) dM bL M M H wn M M hrw (by rw[vM];rfl) (by rw[vM];exact H.hp.dB 0 M M) FT.one O O M ?_;clear H;intro v31 EY a w NC H;refine kH H<|bZ K1 M<|SC<|Rd M<|Rm M ?_;clear H K1;intro a H;refine aI ?_;refine dO ((k+1,v31,xs++xL,EY,G)) (by exact(H.dR (Pl:=[_,_]) (dH:=[]) [] Z M).sub ⟨M,M,M,M,aC⟩) ?_
    (try dsimp only);exact TH
   skip;refine dI hmx [[],[0],[0,1],[0,1,2],ra 0 4,ra 0 5,ra 0 6,ra 0 7,ra 0 8,ra 0 8,ra 0 8++[9],ra 0 11,ra 0 12,ra 0 13,ra 0 14,ra 0 15,ra 0 16,ra 0 17,ra 0 17,ra 0 17++[18],ra 0 20,ra 0 21,ra 0 22,ra 0 17,ra 0 17++[23],ra 0 25,ra 0 26,ra 0 27] [] V [_,vi l[k].kind,_,_,_,_,_,_,undef,undef,undef,undef,undef,undef,undef,_,_,undef,undef,undef,undef,undef,undef,undef,undef,undef,_,_] H (aD (Z0 M<|Rf iW M) (Z1 0 53 M<|Ro aF 0 M) (Z1 1 54 M<|Rc M) (Z1 2 55 M<|Rm M)<|aD (Z1 3 56 M<|YM (aG c1) M) (Z2 4 57 3 56 M<|YC (aG c1) M) (Z2 3 56 5 58 M<|Pt (aG c1) M) (Z1 6 59 M<|Rm M)<|aD (aL 7 (aO c2) M M) (aL 7 (aO c2) M M) (aL 7 (aO c2) M M) (aL 7 (aO c2) M M)<|aD (aL 7 (aO c2) M M) (aL 7 (aO c2) M M) (aL 7 (aO c2) M M) (Z2 7 60 14 67 M<|Pf (aO c2) M)<|aD (Z1 15 68 M<|Rm M) (aL 16 M M M) (aL 16 M M M) (aL 16 M M M)<|aD (aL 16 M M M) (aL 16 M M M) (aL 16 M M M) (aL 16 M M M)<|aD (aL 16 M M M) (aL 16 M M M) (Z2 16 69 25 78 M<|Pf M M) (Z1 26 79 M<|Ra M) dz) ?_
   clear H;intro a w G nZ H hv;have H:=H.aQ (hv 27 52 M M) M;clear hv;refine aI ⟨M,?_⟩;refine K2 _ _ ?_;clear K2;refine oJ H M M ?_;refine kP H<|SC<|Rm M ?_;clear H;intro a H;refine aY bL (cs:=[_,_,_,_,_,_,_,_,_,_,_]) H wn M M (H.hp.dB 0 M M) M ?_;clear H;intro a H;refine iT dM bL [_,_,_,_,_,_,_,_,_,_,_] [_,_,_,_,_,_,_,_,_,_,_] H wn M M M M M (by intro i q h;match i,h with|0,h=>exact h|n+1,h=>simp at h) M M ?_;clear H;intro Tn a w Vh H;refine lW (Li:=[_,_]) (Lo:=Lo) (news:=xL) dM bL M M H wn M M hrw (by rw[vM];rfl) (by rw[vM];exact H.hp.dB 0 M M) FT.one O O M ?_;clear H;intro v31 EY a w NC H;refine kH H<|bZ K1 M<|SC<|Rd M<|Rm M ?_;clear H K1;intro a H;refine aI ?_;refine dO ((k+1,v31,xs++xL,EY,G)) (by exact(H.dR (Pl:=[_,_]) (dH:=[]) [] Z M).sub ⟨M,M,M,M,aC⟩) ?_
   (try dsimp only);exact TH
  intro h46
  try have p46:=dF h46
  refine kH H<|bJ h46 M ?_;clear H;intro a H;refine R6 H (wg H M M M) M h46 M M ?_;clear H;intro a H;refine kH H<|Pf M M<|ak K4 M<|Cf M M<|SQ fun _ K2=>?_;clear H K4;intro a H;obtain⟨xL,vM⟩:∃x,x=[vi l[k].kind,vi l[k].code,vi l[k].id,.string l[k].text,.slice a1 a2 a3,vi l[k].head.marks.ins,vi l[k].head.marks.move,.slice a4 a5 a6,.slice a7 a8 a9,.slice GQ n19 c19,.slice LA n24 c24]:=⟨_,M⟩
  have FT:bg yF l[k].dat xL:=by
   rw[vM];exact agy
  have hA1:(l.map ah.dat).take (k+1)=(l.map ah.dat).take k++[l[k].dat]:=by rw[ji (by simpa using hk2)];simp
  have Ka:=gK.mono fun b o h=>rW b o<|rV b o<|mJ b o<|xV b o h
  obtain⟨bo,pk,pp,pd,pl,Ao⟩:∃(bo:Nat)(pk:fI×Int)(pp pd pl:aj),0<(k:Int)->∃(h:k-1<l.length),vA=some ⟨bo,0,none⟩∧pk=(l[k-1].head,l[k-1].kind)∧xs[(k-1)*11]?=some (vi pk.2)∧kr yF pk.1 pp pd pl∧∀j u,[pp,vi pk.1.marks.ins,vi pk.1.marks.move,pd,pl][j]?=some u->xs[(k-1)*11+4+j]?=some u:=by
   exact ahQ
  have QZ:l[k].kind=1->0<(k:Int)->pk.2=1->¬pk.1=l[k].head:=by
   exact aiB
  have c1:¬(l[k].kind=1):=p46;refine dI hmx [[],[0],[0,1],[0,1,2],ra 0 4,ra 0 5,ra 0 6,ra 0 7,ra 0 8,ra 0 8,ra 0 8++[9],ra 0 11,ra 0 12,ra 0 13,ra 0 14,ra 0 15,ra 0 16,ra 0 17,ra 0 17,ra 0 17++[18],ra 0 20,ra 0 21,ra 0 22,ra 0 17,ra 0 17++[23],ra 0 25,ra 0 26,ra 0 27] [] V [_,vi l[k].kind,_,_,undef,undef,_,_,undef,undef,undef,undef,undef,undef,undef,_,_,undef,undef,undef,undef,undef,undef,undef,undef,undef,_,_] H (aD (Z0 M<|Rf iW M) (Z1 0 53 M<|Ro aF 0 M) (Z1 1 54 M<|Rc M) (Z1 2 55 M<|Rm M)<|aD (aL 3 (aO c1) M M) (aL 3 (aO c1) M M) (Z2 3 56 5 58 M<|Pf (aO c1) M) (Z1 6 59 M<|Rm M)<|aD (aL 7 M M M) (aL 7 M M M) (aL 7 M M M) (aL 7 M M M)<|aD (aL 7 M M M) (aL 7 M M M) (aL 7 M M M) (Z2 7 60 14 67 M<|Pf M M)<|aD (Z1 15 68 M<|Rm M) (aL 16 M M M) (aL 16 M M M) (aL 16 M M M)<|aD (aL 16 M M M) (aL 16 M M M) (aL 16 M M M) (aL 16 M M M)<|aD (aL 16 M M M) (aL 16 M M M) (Z2 16 69 25 78 M<|Pf M M) (Z1 26 79 M<|Ra M) dz) ?_
  clear H;intro a w G nZ H hv;have H:=H.aQ (hv 27 52 M M) M;clear hv;refine aI ⟨M,?_⟩;refine K2 _ _ ?_;clear K2;refine oJ H M M ?_;refine kP H<|SC<|Rm M ?_;clear H;intro a H;refine aY bL (cs:=[_,_,_,_,_,_,_,_,_,_,_]) H wn M M (H.hp.dB 0 M M) M ?_;clear H;intro a H;refine iT dM bL [_,_,_,_,_,_,_,_,_,_,_] [_,_,_,_,_,_,_,_,_,_,_] H wn M M M M M (by intro i q h;match i,h with|0,h=>exact h|n+1,h=>simp at h) M M ?_;clear H;intro Tn a w Vh H;refine lW (Li:=[_,_]) (Lo:=Lo) (news:=xL) dM bL M M H wn M M hrw (by rw[vM];rfl) (by rw[vM];exact H.hp.dB 0 M M) FT.one O O M ?_;clear H;intro v31 EY a w NC H;refine kH H<|bZ K1 M<|SC<|Rd M<|Rm M ?_;clear H K1;intro a H;refine aI ?_;refine dO ((k+1,v31,xs++xL,EY,G)) (by exact(H.dR (Pl:=[_,_]) (dH:=[]) [] Z M).sub ⟨M,M,M,M,aC⟩) ?_
  (try dsimp only);exact TH
 intro h10 a H
 try have lC:=dF h10
 refine dS ?_;refine K3 _ _ ?_;clear K3;refine bU<|fun _ K1=>?_;obtain⟨G',hm,hrep,H⟩:=H.qy (Li:=[]) hrw (rows:=l.map ah.dat) (by simp;omega) (by rw[jX (by simp;omega)]at gK;exact gK);exact kP H<|SC<|Rm M<|bZ K1 M<|LR results99 M fun H=>H.rt hrep



theorem aew(l m:List ah):aR (l++m)=aR l+aR m:=by simp[aR,Ov]


theorem aam:aW 145:=aX func145 M
theorem MK:aW 146:=aX func146 M
def Dm(l:List ah)(fr to:Int):Int:=if zm l=0 then(if fr<0∨to<fr∨kL l<to then 2 else 0)else zm l
theorem agA {p:Prop} (h:p:=by
 first
  |(rw[iw];done)
  | (rw [bQ];done)):p:=h
theorem ZJ {p:Prop} (h:p:=by
 intro a H;refine lr H results145 M ?_
 have h0:zm l=0:=by omega
 refine H.rt ?_;rw[Dm,ay h0]
 exact agA):p:=h
theorem Z4(G:GH)(w0:World)(hG:Hold G w0)(l:List ah)(fr to:Int)(v:aj)(hv:av G (.sl 11<|l.map ah.dat) v)(hz:aR l<=4294967296) :
  Calls prog 145 #[v,vi fr,vi to] w0 (bD w0 G fun u G'=>u=vi (Dm l fr to)):=by
 refine eN [(0,_),(1,_),(2,_)] func145 M ntmps145 M M hG<|SR fun _ K1=>ak K1 M<|SR fun _ K2=>Rm M fun a H=>s_call UF H wn M (V4 _ _ H.ro l v hv hz) M ?_;clear H;rintro v11 _ a w ⟨rfl,rfl⟩-H;refine kH H<|Rm M ?_;clear H;intro a H;(iterate 2 refine iH H wn M M M ?_;clear H;intro a H);refine kH H (Ra M<|ak K2 M<|SQ fun _ K1=>SB<|SR fun _ K3=>Rm M<|Rc M<|ak K3 M<|Cd M ?_ ?_)<;>clear H K2 K3
 ·intro dW a H
  try have kF:=dT dW
  exact kP H (SR fun _ K2=>Rm M<|ak K2 M<|LR results145 M fun H=>H.rt (by rw[Dm,au kF]))
 intro dW a H
 try have kF:=dF dW
 refine kP H (SR fun _ K2=>Rm M<|Rc M<|Rm M<|Sp 21 M ?_ ?_)<;>clear H
 ·intro h21 a H
  try have sG:=dT h21
  exact kH H<|bJ h21 M<|Pt h21 M<|Rm M<|bJ M M<|Pt M M<|ak K2 M<|Ct M M<|SR fun _ K3=>ak K3 M ZJ
 intro h21 a H
 try have sG:=dF h21
 refine kH H (YM h21 M<|YM h21 M<|YC h21 M<|Pf h21 M<|Rm M<|Sp 26 M ?_ ?_)<;>clear H
 ·intro jZ a H
  try have p26:=dT jZ
  exact kH H<|bJ jZ M<|Pt jZ M<|ak K2 M<|Ct M M<|SR fun _ K3=>ak K3 M ZJ
 intro jZ a H
 try have p26:=dF jZ
 refine kH H (YM jZ M<|YM jZ M<|YC jZ M<|Pf jZ M<|ak K2 M<|Cd M ?_ ?_)<;>clear H K2
 ·intro h18 a H
  try have pU:=dT h18
  exact kP H<|SR fun _ K2=>ak K2 M ZJ
 intro h18 a H
 try have pU:=dF h18
 refine kP H<|Kc K1<|SR fun _ K2=>ak K2 M fun a H=>lr H results145 M ?_
 have h0:zm l=0:=by omega
 refine H.rt ?_;rw[Dm,ay h0]
 exact agA
def aeK(m:List ah):Prop:=O4 m∧∀x∈m,aeJ x
theorem Lm:∀{m l:List ah},m.Sublist l->aR m<=aR l
 |_,_,.slnil=>eP _
 |_,_,.cons a h=>by have:=Lm h;simp only[aR,dV,fE]at *;omega
 |_,_,.cons_cons a h=>by have:=Lm h;simp only[aR,dV,fE]at *;omega
theorem KU:∀(l:List ah)(o:Nat),(fO o l).map (·.2)=l
 |[],_=>rfl
 |x::l,o=>by simp[fO,KU l]
theorem aoj(t:Int)(l:List ah):(wR t l).Sublist l:=by
 have h:(lA t<|fO 0 l).Sublist ((fO 0 l).map (·.2)):=List.Sublist.map _ List.filter_sublist
 rwa[KU]at h
theorem apM(t:Int)(l:List ah):(Dl t l).Sublist l:=by
 have h:(rA t<|fO 0 l).Sublist ((fO 0 l).map (·.2)):=List.Sublist.map _ List.filter_sublist
 rwa[KU]at h
def Ja(t:Int)(l:List ah):Prop:=∀a∈fO 0 l,rC t a=true∨t<=a.1
theorem aHM(G:GH)(w0:World)(hG:Hold G w0)(l:List ah)(fr to:Int)(v:aj)(hv:av G (.sl 11<|l.map ah.dat) v)(hz:aR l<=1073741824)(hr:Dm l fr to=0)
  (h1:Ja to l)(h2:Ja fr (wR to l))(hp:aeK (Dl fr<|wR to l)) :
  Calls prog 74 #[v,vi fr,vi to] w0 (bD w0 G fun u G'=>∃x,u=.tuple #[x,vi 0]∧av G' (.sl 11 ((Dl fr<|wR to l).map ah.dat)) x):=by
 have z1:=Lm<|aoj to l;have z2:=Lm<|apM fr<|wR to l;refine eN [(0,_),(1,_),(2,_)] func74 M ntmps74 M M hG<|SR fun _ K1=>Ra M<|ak K1 M<|SQ fun _ K2=>SR fun _ K3=>Rm M<|Rm M<|Rm M fun a H=>s_call aam H wn M (Z4 _ _ H.ro l fr to v hv O) M ?_;rintro v16 xu a w rfl xW H;rw[hr]at H;refine kH H (ak K3 M<|SR fun _ K1=>Rm M<|Rc M<|Kz K1<|Cd M ?_ ?_)<;>clear H K3 K1
 ·intro h18 a H;exact absurd h18 Z
 refine fun h18=>Kc K2<|SR fun _ K1=>Rm M<|Rm M fun a H=>s_call MK H wn M (Ur _ _ H.ro l to v (hv.mono xW) hz h1) M ?_;rintro v23 Je a w ⟨x,y,rfl,hx,hy⟩ rV H;refine kH H<|Rm M ?_;intro a H;(iterate 2 refine iH H wn M M M ?_;intro a H);refine kH H<|Ra M<|ak K1 M<|SR fun _ K2=>Rm M<|Rm M fun a H=>s_call MK H wn M (Ur _ _ H.ro (wR to l) fr x hx O h2) M ?_;rintro v29 Jf a w ⟨x2,y2,rfl,hx2,hy2⟩ Nn H;refine kH H<|Rm M ?_;intro a H;(iterate 2 refine iH H wn M M M ?_;intro a H);refine kH H<|Ra M<|ak K2 M<|SR fun _ K1=>Rm M fun a H=>s_call JK H wn M (aFC _ _ H.ro _ y2 hy2 hp.1 hp.2 O) M ?_;rintro v33 LP a w Rb Ki H;obtain⟨XH,n33,ZU,rfl⟩:=Rb.form;refine kH H<|Ra M<|ak K1 M fun a H=>eH ((gV H results74 (.cons (cK H M) (.cons (cK H M) .nil)) ?_).1);exact H.rt ⟨_,M,Rb⟩
theorem apj:∀{l:List ah}{x:ah},eT l->x∈l->iP x=0
 |y::l,x,h,hx=>by
  obtain⟨C,body,note,t,s,s',e⟩:=h;rw[jH]at e;obtain⟨e1,e⟩:=jY e
  rcases iL.1 hx with rfl|hx
  ·have e2:fM C body note t x s=(0,(fM C body note t x s).2):=Prod.ext e1 M
   generalize(fM C body note t x s).2=s2 at e2
   rw[VY]at e2;exact(jY e2).1
  exact apj ⟨C,body,note,t,_,_,e⟩ hx
theorem awm:∀b:Fin 256,rP .and .u8 (b.val:Int) 192=128->128<=b.val∧b.val<194:=by decide+kernel
theorem aAg{s:ByteArray}(hv:iI s=true)(hs:0<s.size):¬rP .and .u8 (eO s 0) 192=128:=by
 intro h;rw[lN hs]at h;obtain⟨h1,h2⟩:=awm ⟨_,UInt8.toNat_lt _⟩ h;dsimp only at h1 h2
 unfold iI at hv
 rw[gq,dif_pos hs]at hv
 have hd:(iO s 0).2.2=false:=by
  unfold iO
  simp only[lN hs]
  rw[ay (by simp only[jo];rw[bQ,iw])]
 rw[dif_neg (by rw[hd];decide)]at hv
 simp at hv
theorem Xr{l:List ah}{x:ah}(h:eT l)(hx:x∈l):1<=bO x:=by
 have hf:=apj h hx;have hv:=(h.mem hx).txt
 unfold bO
 by_cases h1:x.kind=1
 ·rw[ay h1]
  unfold iP at hf
  split at hf
  ·cases hf
  split at hf
  ·cases hf
  split at hf
  ·cases hf
  split at hf
  ·cases hf
  rename_i h2
  rw[kZ (Or.inl h1),Me]at h2
  have hs:0<x.text.size:=by
   rcases Nat.eq_zero_or_pos x.text.size with h0|h0
   ·exfalso;apply h2
    have:x.text=⟨#[]⟩:=by
     apply ByteArray.ext
     exact Array.eq_empty_of_size_eq_zero h0
    rw[this];unfold rz;exact beq_self_eq_true _
   exact h0
  have hb:=aAg hv hs
  unfold dU
  rw[ay hv,iM,ay hs,au hb]
  omega
 rw[au h1];exact eP _
theorem wW:∀p q:List ah,bC (p++q)=bC p+bC q
 |[],q=>by rw[fQ,bC,fB]
 |x::p,q=>by rw[jl,bC,bC,wW p q,Nat.add_assoc]
theorem NY:∀(o:Nat)(p q:List ah),fO o (p++q)=fO o p++fO (o+bC p) q
 |_,[],q=>by rw[fQ,fO,bC,oZ];rfl
 |o,x::p,q=>by rw[jl,fO,fO,NY (o+bO x) p q,bC,jl,Nat.add_assoc]
theorem NZ:∀{l:List ah}{o:Nat}{a:Nat×ah},a∈fO o l->o<=a.1∧a.1+bO a.2<=o+bC l∧a.2∈l
 |[],_,_,h=>by cases h
 |x::l,o,a,h=>by
  rw[fO]at h;rw[bC]
  rcases iL.1 h with rfl|h
  ·exact⟨eP _,by dsimp only;omega,fJ⟩
  obtain⟨h1,h2,h3⟩:=NZ h;exact⟨O,O,gH _ h3⟩
theorem aaS{p:List ah}{a:Nat×ah}(h:a∈fO 0 p):rC (bC p:Nat) a=true:=by
 have:=NZ h;exact Y0
theorem alk{p q:List ah}(hq:∀y∈q,1<=bO y){a:Nat×ah}(h:a∈fO (0+bC p) q):rC (bC p:Nat) a=false:=by
 have h1:=NZ h;have h2:=hq _ h1.2.2;exact mE O
theorem left_at{p q:List ah}(hq:∀y∈q,1<=bO y):wR (bC p:Nat) (p++q)=p:=by
 unfold wR lA
 rw[NY,List.filter_append,List.filter_eq_self.2 fun a ha=>aaS ha,List.filter_eq_nil_iff.2 fun a ha=>by rw[alk hq ha];decide,iR,KU]
theorem aGw{p q:List ah}(hq:∀y∈q,1<=bO y):Dl (bC p:Nat) (p++q)=q:=by
 unfold Dl rA
 rw[NY,List.filter_append,List.filter_eq_nil_iff.2 fun a ha=>by rw[aaS ha];decide,List.filter_eq_self.2 fun a ha=>by rw[alk hq ha];rfl,fQ,KU]
theorem ajm(p q:List ah):Ja (bC p:Nat) (p++q):=by
 intro a ha;rw[NY]at ha
 rcases iF.1 ha with h|h
 ·exact .inl<|aaS h
 exact .inr (by have:=(NZ h).1;omega)
def AtI(t:Nat)(l:List ah)(a:cZ):Prop:=∃(p:List ah)(x:ah)(q:List ah),l=p++x::q∧x.kind=8∧x.id=a.id∧x.code=a.code∧x.text=a.name∧a.at_=((t+bC p:Nat):Int)
def DU(L:List eU)(a:cZ):Prop:=∃F∈L,F.id=a.flow∧eT F.items∧AtI 0 F.items a
theorem DU.left{L qq:List eU}{a:cZ}(h:DU L a):DU (L++qq) a:=by obtain⟨F,h1,h2⟩:=h;exact⟨F,List.mem_append_left _ h1,h2⟩
theorem DU.right{L qq:List eU}{a:cZ}(h:DU qq a):DU (L++qq) a:=by obtain⟨F,h1,h2⟩:=h;exact⟨F,List.mem_append_right _ h1,h2⟩
theorem DU.cons{F:eU}{qq:List eU}{a:cZ}(h:DU qq a):DU (F::qq) a:=DU.right (L:=[F]) h
section
theorem UA:aW 49:=aX func49 M
theorem aas:aW 196:=aX func196 M
theorem UC:aW 51:=aX func51 M
variable{us:List Int}
theorem Vl(G:GH)(L:OL)(w0:World)(st:List dh)(li:List fV)(rv:List dJ)(b ms ml mr mb mu:Nat)(n:Int)(hck:yE us G st li rv ms ml mr mu)(hO:fZ G (iV b ms ml mr mb mu n::L) w0)
  (e:Int)(h:fI)(p d l:aj)(hh:kr G h p d l)(hz:oF h<=4294967296) :
  Calls prog 49 #[aK b 0,vi e,wN h p d l] w0 (fG w0 G (iV b ms ml mr mb mu n::L) fun v G' L'=>G=G'∧L'=iV b ms ml mr mb mu n::L∧v=vi (iX (bS us st li rv) e h)):=by
 have hm:=GH.Md G (o:=(iV b ms ml mr mb mu n).2)<|hO.sep _ fJ;exact(aCf (G.add b (iV b ms ml mr mb mu n).2) w0 hO.add st li rv b ms ml mr mb mu n (hck.mono hm) (GH.Jm _ _ _) e h p d l (hh.mono hm) hz).mono fun _ _=>aGr (b:=b) (o:=(iV b ms ml mr mb mu n).2) (R':=fun v=>v=vi (iX (bS us st li rv) e h)) hO fun _ _ h=>h
abbrev SG(b ms ml mr mb mu:Nat)(L:OL)(r:CR):aj->OL->Prop:=fun u L'=>∃s:CS,u=vi r.1∧L'=iV b ms ml mr mb mu s.n::(mb,gG (gW s.bV))::L∧(r.1=0->s=r.2)
def LV(us:List Int)(m:Nat):Prop:=∀(G:GH)(L:OL)(w0:World)(st:List dh)(li:List fV)(rv:List dJ)(b ms ml mr mb mu:Nat)(s:CS)(l:List ah)(v:aj)(body note:Bool)(t:Int),
 yE us G st li rv ms ml mr mu->fZ G (iV b ms ml mr mb mu s.n::(mb,gG (gW s.bV))::L) w0->av G (.sl 11 (l.map ah.dat)) v->aR l<m->0<=t->t<=4->0<=s.n->s.n+(aR l:Nat)<=1099511627776->
 Calls prog 51 #[(aK b 0),v,.agg #[.bool body,.bool note,vi t]] w0 (fG w0 G (iV b ms ml mr mb mu s.n::(mb,gG (gW s.bV))::L) fun u G' L'=>G=G'∧SG b ms ml mr mb mu L (jH (bS us st li rv) body note t l s) u L')
theorem rows_ok{m:Nat}(ih:LV us m)(hm:m<=4294967296)(Gt:GH)(L:OL)(w0:World)(st:List dh)(li:List fV)(rv:List dJ)(b ms ml mr mb mu:Nat)(s:CS)(l:List aN)(v:aj)(note:Bool)(t:Int)
  (hck:yE us Gt st li rv ms ml mr mu)(hO:fZ Gt (iV b ms ml mr mb mu s.n::(mb,gG<|gW s.bV)::L) w0)(hv:av Gt (.sl 6<|l.map aN.dat) v)(hz:gB l<m)(ht0:0<=t)(Kv:t<=4)(hs0:0<=s.n)(hs1:s.n+(gB l:Nat)<=1099511627776) :
  Calls prog 197 #[aK b 0,v,.agg #[.bool false,.bool note,vi t]] w0 (fG w0 Gt (iV b ms ml mr mb mu s.n::(mb,gG<|gW s.bV)::L) fun u G' L'=>SG b ms ml mr mb mu L (nH l.length (fun s=>jm (bS us st li rv) note t l s) s) u L'):=by
 obtain⟨A,c,rfl,hc1,hc2,hg⟩:=hv.slice;rw[bM]at *;have hll:=ER l;refine iY (N:=77) (T:=[(0,_),(1,_),(2,_)]) func197 M ntmps197 M M hO fun a H=>dw (fun _ K1=>eD (cs:=[_,_,_]) H wn M M M fun b5 a w hb5 H=>kH H<|ak K1 M<|SQ fun _ K2=>SR fun _ K3=>Rm M<|Rl jI M<|Rc M<|Kz K3<|Cd M ?_ ?_)<;>clear H K1 K3
 ·intro dL a H
  try have lD:=dT dL
  refine bU<|fun _ K1=>?_;have hE:nH l.length (fun s=>jm (bS us st li rv) note t l s) s=(11,s):=iw;exact kP H (SC (bZ K1 M (LR results197 M fun H=>H.hp.lU (L':=iV b ms ml mr mb mu s.n::(mb,gG<|gW s.bV)::L) (by repeat(first|exact nW _|apply List.Sublist.cons)) ⟨s,by rw[hE],M,fun h=>by rw[hE]⟩)))
 intro dL a H
 try have lD:=dF dL
 refine kP H (Kc K2<|SQ fun _ K1=>SR fun _ K3=>Rm M<|Rl jI M<|Rc M<|Kz K3<|Cd M ?_ ?_)<;>clear H K2 K3
 ·intro h20 a H
  try have BJ:=dT h20
  refine bU<|fun _ K2=>?_
  have hE:nH l.length (fun s=>jm (bS us st li rv) note t l s) s=(9,s):=by rw[nH,bQ,iw]
  exact kP H (SC (bZ K2 M (LR results197 M fun H=>H.hp.lU (L':=iV b ms ml mr mb mu s.n::(mb,gG<|gW s.bV)::L) (by repeat(first|exact nW _|apply List.Sublist.cons)) ⟨s,by rw[hE],M,fun h=>by rw[hE]⟩)))
 intro h20 a H
 try have BJ:=dF h20
 refine kP H<|Kc K1<|SQ fun _ K2=>SQ fun _ K3=>?_;clear H K1;intro a H
 have hE:nH l.length (fun s=>jm (bS us st li rv) note t l s) s=jm (bS us st li rv) note t l s:=by rw[nH,bQ,bQ]
 refine kP H<|SC<|Rm M<|Rl jI M<|Rm M<|Kn K3<|SB ?_;clear H K3;intro a H;skip;refine dY (ι:=Nat×CS×GH) (Tc:=[(0,_),(5,_),(21,_),(22,_)]) (Lc:=[(_,_)]) (fun gh=>[(23,vi gh.1)]) (fun gh=>[iV b ms ml mr mb mu gh.2.1.n,(mb,gG<|gW gh.2.1.bV)]++L) (fun gh=>gh.2.2) (fun gh=>gh.1<=l.length∧(∀b o,Gt b=some o->gh.2.2 b=some o)∧jm (bS us st li rv) note t l s=jm (bS us st li rv) note t (l.drop gh.1) gh.2.1∧0<=gh.2.1.n∧gh.2.1.n+(gB (l.drop gh.1):Nat)<=1099511627776) (fun gh=>l.length-gh.1) ((0,s,Gt)) (by exact H.sub ⟨M,M,M,M,M,aC⟩) ?_ ?_
 ·exact⟨fP _,fun _ _ h=>h,M,hs0,hs1⟩
 clear H;rintro⟨k,s1,g⟩ a w hI H;dsimp only at hI H;obtain⟨hk,hgm,hR,hn0,hn1⟩:=hI;dsimp only[lca,bq]at H;refine kP H (SR fun _ K1=>Rc M<|Kz K1<|SQ fun _ K3=>Cd M ?_ ?_)<;>clear H K1
 ·intro eY a H
  try have pW:=dT eY
  have hk2:k<l.length:=by omega
  have hsz:=GL hk2;have hcs:=EP l[k].cells
  have hdz:gB (l.drop k)=1+bY l[k].dat+gB (l.drop<|k+1):=by simp only[gB];rw[mg hk2,dV,fE]
  have hrz:=zC l[k];obtain⟨xb,xo,qA,qn,qc,eA,en,ec,zA,zn,zc,cA,cn,cc,rfl,hrow,zk,hcl⟩:=Gg hk2 hg;replace hrow:=fun j u hj=>aH hgm<|hrow j u hj;replace zk:=zk.mono hgm;replace hcl:=hcl.mono hgm;have hcn:=hcl.len;rw[bM]at hcn;subst hcn;have aBZ:=hck.mono hgm;rw[mg hk2,jm,RZ]at hR;refine kP H<|Kc K3<|SQ fun _ K1=>SB<|SR fun _ K4=>Ri jI iC M M fun a H=>aY iC (cs:=[_,_,_,_,_,_]) H wn M M (fun j v hj=>H.hp.aJ<|hrow j v hj) M fun a H=>dK iC H wn M fun b8 a w Ee H=>bH iC 0 (vs:=[_,_,_,_,_,_]) H wn M fun w H=>K4 _ _<|bU<|fun _ K3=>bU<|fun _ K4=>dI hmx [[],[],[1],[0,1,2],[],[4],[4,5],[4,5,6],ra 0 8,[],[9],[9,10],[9,10,11],ra 0 13,ra 0 14,ra 0 15,ra 0 16] [14,15,16] V [_,_,wN l[k].head (.slice qA qn qc) (.slice eA en ec) (.slice zA zn zc),vi (iX (bS us st li rv) 9 l[k].head),_,.slice cA l[k].cells.length cc,_,_,vi (dX (decide ((l[k].cells.length:Int)=0)) 11),_,.slice cA l[k].cells.length cc,_,_,vi<|dX (decide (32<(l[k].cells.length:Int))) 9] H (aD (Z0 M<|Rm M) (Z0 M<|Rf Qj M) ?_ ?_<|aD (Z0 M<|Rf rT M) (Z1 4 31 M<|Ro qD 0 M) (Z1 5 32 M<|Rl ko M) (Z1 6 33 M<|Rc M)<|aD ?_ (Z0 M<|Rf rT M) (Z1 9 36 M<|Ro qD 0 M) (Z1 10 37 M<|Rl ko M)<|aD (Z1 11 38 M<|Rc M) ?_ (bX M) (bX M)<|bE (bX M) dz) ?_
  ·exact iE 1 28 M M fun _ a w G1 hG HT H fin=>aY oC (cs:=[_,_,_,_,_]) H wn M M (H.hp.dB 0 M M) M jD
  ·refine fu 0 27 2 29 M M fun _ a w G1 hG HT H fin=>gM UA (Li:=[_,_]) (L:=iV b ms ml mr mb mu s1.n::(mb,gG<|gW s1.bV)::L) H wn M (Vl _ _ _ st li rv b ms ml mr mb mu _ (aBZ.mono hG) (Hp.owns (Li:=[_,_]) H.hp) 9 l[k].head _ _ _ (zk.mono hG) O) M ?_;clear H;rintro v30 _ _ a w ⟨rfl,rfl,rfl⟩ abg H;dsimp only[lca,bq]at H;exact fin H abg<|rfl
  ·refine iE 7 34 M M fun _ a w G1 hG HT H fin=>s_call qx H wn M (qF _ _ H.ro _ 11) M ?_;clear H;rintro v35 G35 a w ⟨rfl,-⟩ abh H;exact fin H abh<|rfl
  ·refine iE 12 39 M M fun _ a w G1 hG HT H fin=>s_call qx H wn M (qF _ _ H.ro _ 9) M ?_;clear H;rintro v40 OX a w ⟨rfl,-⟩ aA0 H;exact fin H aA0<|rfl
  clear H;intro a w G uX H hv;have H:=H.aQ (hv 3 30 M M) M;have H:=H.aQ (hv 8 35 M M) M;have H:=H.aQ (hv 13 40 M M) M;clear hv;refine iT tQ jS [_,_,_] [_,_,_] H wn M M M M M (by intro i q h;match i,h with|0,h=>exact h|1,h=>exact h|2,h=>exact h|n+3,h=>simp at h) M M ?_;clear H;intro b41 a w aJV H;obtain⟨XQ,amF,aBI,H⟩:=H.eX;have amq:∀b o,Gt b=some o->XQ b=some o:=fun b o h=>amF _ _<|uX _ _<|hgm _ _ h;refine s_call uT H wn M (uV _ _ H.ro _ _ (KD [iX (bS us st li rv) 9 l[k].head,dX (decide ((l[k].cells.length:Int)=0)) 11,dX (decide (32<(l[k].cells.length:Int))) 9] aBI (show 3<=maxLen by decide))) rfl ?_;clear H;rintro v42 _ a w ⟨rfl,rfl⟩-H;refine kH H (Ra M fun a H=>aI ⟨M,K4 _ _<|kP H<|SR fun _ K4=>Rm M<|Rc M<|Kz K4<|Cd M ?_ ?_⟩)<;>clear H K4
  ·intro JX a H
   try have p44:=dT JX
   have e44:Gf (bS us st li rv) l[k].head l[k].cells.length≠0:=p44
   have hF1:(nH l.length (fun s=>jm (bS us st li rv) note t l s) s).1=Gf (bS us st li rv) l[k].head l[k].cells.length:=by rw[hE,hR,Tj (r:=(Gf (bS us st li rv) l[k].head l[k].cells.length,s1)) e44,Tj e44]
   have hF2:(nH l.length (fun s=>jm (bS us st li rv) note t l s) s).1=0->s1=(nH l.length (fun s=>jm (bS us st li rv) note t l s) s).2:=fun h=>absurd (hF1.symm.trans h) e44;exact kP H (SR fun _ K4=>Rm M (ak K4 M (LR results197 M fun H=>H.hp.lU (L':=iV b ms ml mr mb mu s1.n::(mb,gG<|gW s1.bV)::L) (by repeat(first|exact nW _|apply List.Sublist.cons)) ⟨s1,cO vi hF1.symm,M,hF2⟩)))
  intro JX a H
  try have p44:=dF JX
  have e44:Gf (bS us st li rv) l[k].head l[k].cells.length=0:=nL.1 p44;rw[Mg (r:=(Gf (bS us st li rv) l[k].head l[k].cells.length,s1)) e44]at hR;dsimp only at hR;have aB0:=hck.mono amq;replace hcl:=hcl.mono<|fun b o h=>amF _ _<|uX b o h;refine kP H<|Kc K3<|SR fun _ K4=>aV rT qD 0 M M<|Rl ko M<|Rm M<|Kz K4<|SB ?_;clear H K3 K4;intro a H;skip;refine dY (ι:=Nat×CS×GH) (Tc:=[(0,_),(5,_),(21,_),(22,_),(23,_),(47,_),(48,_)]) (Lc:=[(_,_),(_,_)]) (fun gh=>[(49,vi gh.1)]) (fun gh=>[iV b ms ml mr mb mu gh.2.1.n,(mb,gG<|gW gh.2.1.bV)]++L) (fun gh=>gh.2.2) (fun gh=>gh.1<=l[k].cells.length∧(∀b o,XQ b=some o->gh.2.2 b=some o)∧jm (bS us st li rv) note t l s=jf (qH (bS us st li rv) note t (l[k].cells.drop gh.1) gh.2.1) (fun s=>jm (bS us st li rv) note t (l.drop<|k+1) s)∧0<=gh.2.1.n∧gh.2.1.n+(iU (l[k].cells.drop gh.1):Nat)+(gB (l.drop<|k+1):Nat)<=1099511627776) (fun gh=>l[k].cells.length-gh.1) ((0,s1,XQ)) (by exact H.sub ⟨M,M,M,M,M,M,M,M,aC⟩) ?_ ?_
  ·exact⟨fP _,fun _ _ h=>h,hR,hn0,by dsimp only;rw[xI];omega⟩
  clear H;rintro⟨c,s2,g2⟩ a w hI H;dsimp only at hI H;obtain⟨hc,Vo,hR2,hm0,hm1⟩:=hI;have nk:=fun b o h=>Vo b o<|amq b o h;dsimp only[lca,bq]at H;refine kP H (SR fun _ K3=>Rc M<|Kz K3<|SQ fun _ K4=>Cd M ?_ ?_)<;>clear H K3
  ·intro h50 a H
   try have p50:=dT h50
   have hk4:c<l[k].cells.length:=by omega
   have aDE:=GJ hk4
   have aB9:iU (l[k].cells.drop c)=1+bY l[k].cells[c].dat+iU (l[k].cells.drop<|c+1):=by simp only[iU];rw[mg hk4,dV,fE]
   have hcz:=AU l[k].cells[c];obtain⟨b3',o3,sA,sn,sc,tA,tn,tc,uA,un,uc,gA,gn,gc,rfl,hrow,hch,hcf⟩:=Hr hk4 (hcl.mono Vo).at_;have abD:=aB0.mono Vo;rw[mg hk4,qH,PU]at hR2;obtain⟨y,hy⟩:∃y,y=l[k].cells[c]:=⟨_,M⟩;rw[<-hy]at hR2 hrow hch hcf hcz aDE aB9;refine kP H<|Kc K4<|SQ fun _ K3=>SB<|SR fun _ K5=>Ri ko iQ M M fun a H=>aY iQ (cs:=[_,_,_,_,_,_,_]) H wn M M (fun j v hj=>H.hp.aJ<|hrow j v hj) M fun a H=>dK iQ H wn M fun b11 a w Qx H=>bH iQ 0 (vs:=[_,_,_,_,_,_,_]) H wn M fun w H=>K5 _ _<|kP H<|SQ fun _ K4=>SR fun _ K5=>Rm M<|aV JN aF 0 M M fun a H=>gM aas (Li:=[_,_,_]) (L:=iV b ms ml mr mb mu s2.n::(mb,gG<|gW s2.bV)::L) H wn M (Z5 _ _ _ st li rv b ms ml mr mb mu _ s2.bV y.id abD<|Hp.owns (Li:=[_,_,_]) H.hp) M ?_;clear H;rintro v56 _ _ a w ⟨rfl,rfl,rfl⟩-H;dsimp only[lca,bq]at H;refine kH H (ak K5 M<|SR fun _ K6=>Rm M<|Rc M<|Kz K6<|Cd M ?_ ?_)<;>clear H K5 K6
   ·intro pG a H
    try have p58:=dT pG
    have hF1:(nH l.length (fun s=>jm (bS us st li rv) note t l s) s).1=uG us s2.bV y.id:=by rw[hE,hR2];simp[jf,oO,p58]
    have hF2:(nH l.length (fun s=>jm (bS us st li rv) note t l s) s).1=0->(⟨s2.n,oN us s2.bV y.id⟩:CS)=(nH l.length (fun s=>jm (bS us st li rv) note t l s) s).2:=fun h=>absurd (hF1.symm.trans h) p58;exact kP H (SR fun _ K5=>Rm M (ak K5 M (LR results197 M fun H=>H.hp.lU (L':=iV b ms ml mr mb mu s2.n::(mb,gG<|gW<|oN us s2.bV y.id)::L) (by repeat(first|exact nW _|apply List.Sublist.cons)) ⟨⟨s2.n,oN us s2.bV y.id⟩,cO vi hF1.symm,M,hF2⟩)))
   intro pG a H
   try have p58:=dF pG
   have e58:uG us s2.bV y.id=0:=nL.1 p58;refine kP H<|Kc K4<|SQ fun _ K5=>SR fun _ K6=>Rm M<|Rf Qk M fun a H=>aY oC (cs:=[_,_,_,_,_]) H wn M M (H.hp.dB 0 M M) M fun a H=>gM UA (Li:=[_,_,_]) (L:=iV b ms ml mr mb mu s2.n::(mb,gG<|gW<|oN us s2.bV y.id)::L) H wn M (Vl _ _ _ st li rv b ms ml mr mb mu _ abD (Hp.owns (Li:=[_,_,_]) H.hp) 10 y.head _ _ _ hch O) M ?_;clear H;rintro v63 _ _ a w ⟨rfl,rfl,rfl⟩-H;dsimp only[lca,bq]at H;refine kH H (ak K6 M<|SR fun _ K4=>Rm M<|Rc M<|Kz K4<|Cd M ?_ ?_)<;>clear H K6 K4
   ·intro vJ a H
    try have p65:=dT vJ
    have hF1:(nH l.length (fun s=>jm (bS us st li rv) note t l s) s).1=iX (bS us st li rv) 10 y.head:=by rw[hE,hR2];simp[jf,oO,e58,p65]
    have hF2:(nH l.length (fun s=>jm (bS us st li rv) note t l s) s).1=0->(⟨s2.n,oN us s2.bV y.id⟩:CS)=(nH l.length (fun s=>jm (bS us st li rv) note t l s) s).2:=fun h=>absurd (hF1.symm.trans h) p65;exact kP H (SR fun _ K4=>Rm M (ak K4 M (LR results197 M fun H=>H.hp.lU (L':=iV b ms ml mr mb mu s2.n::(mb,gG<|gW<|oN us s2.bV y.id)::L) (by repeat(first|exact nW _|apply List.Sublist.cons)) ⟨⟨s2.n,oN us s2.bV y.id⟩,cO vi hF1.symm,M,hF2⟩)))
   intro vJ a H
   try have p65:=dF vJ
   have e65:iX (bS us st li rv) 10 y.head=0:=nL.1 p65;refine kP H (Kc K5 (SR fun _ K4=>Rm M (aV Cr eG 0 M M fun a H=>aY Xf (cs:=[_,_,_]) H wn M M (H.hp.dB 2 M M) M fun a H=>gM UC (Li:=[_,_,_]) (L:=iV b ms ml mr mb mu s2.n::(mb,gG<|gW<|oN us s2.bV y.id)::L) H wn M (ih _ _ _ st li rv b ms ml mr mb mu ⟨s2.n,oN us s2.bV y.id⟩ y.flow _ false note t abD (Hp.owns (Li:=[_,_,_]) H.hp) hcf O ht0 Kv hm0 (by dsimp only;omega)) rfl ?_)));clear H;rintro v71 _ _ a w ⟨rfl,s3,rfl,rfl,h3⟩-H;dsimp only[lca,bq]at H;refine kH H (ak K4 M<|SR fun _ K5=>Rm M<|Rc M<|Kz K5<|Cd M ?_ ?_)<;>clear H K4 K5
   ·intro Af a H
    try have p73:=dT Af
    have hF1:(nH l.length (fun s=>jm (bS us st li rv) note t l s) s).1=(jH (bS us st li rv) false note t y.flow ⟨s2.n,oN us s2.bV y.id⟩).1:=by rw[hE,hR2];simp[jf,oO,e58,e65,p73]
    have hF2:(nH l.length (fun s=>jm (bS us st li rv) note t l s) s).1=0->s3=(nH l.length (fun s=>jm (bS us st li rv) note t l s) s).2:=fun h=>absurd (hF1.symm.trans h) p73;exact kP H (SR fun _ K4=>Rm M (ak K4 M (LR results197 M fun H=>H.hp.lU (L':=iV b ms ml mr mb mu s3.n::(mb,gG<|gW s3.bV)::L) (by repeat(first|exact nW _|apply List.Sublist.cons)) ⟨s3,cO vi hF1.symm,M,hF2⟩)))
   intro Af a H
   try have p73:=dF Af
   have e73:(jH (bS us st li rv) false note t y.flow ⟨s2.n,oN us s2.bV y.id⟩).1=0:=nL.1 p73;obtain⟨hu1,hu2⟩:=Xu (bS us st li rv) false note t y.flow ⟨s2.n,oN us s2.bV y.id⟩;rw[<-h3 e73]at hu1 hu2;dsimp only at hu1 hu2
   have hS:jf (jf (jf (oO (bS us st li rv) s2 y.id) fun s=>jf (iX (bS us st li rv) 10 y.head,s) fun s=>jH (bS us st li rv) false note t y.flow s) fun s=>qH (bS us st li rv) note t (l[k].cells.drop<|c+1) s) (fun s=>jm (bS us st li rv) note t (l.drop<|k+1) s)=jf (qH (bS us st li rv) note t (l[k].cells.drop<|c+1) s3) (fun s=>jm (bS us st li rv) note t (l.drop<|k+1) s):=by
    rw[h3 e73];simp[jf,oO,e58,e65,e73]
   refine kP H (Kc K3 (SC (Rd M (Rm M fun a H=>aI (dO ((c+1,s3,g2)) (by exact(H.dR (Pl:=[_,_,_,_,_]) (dH:=[_,_,_,_]) [1,2,3,4] Z M).sub ⟨M,M,M,M,M,M,M,M,aC⟩) ?_)))))
   (try dsimp only);exact⟨O,Vo,hR2.trans hS,O,O⟩
  intro h50 a H
  try have p50:=dF h50
  refine dS (K1 _ _ (kP H (SC (Rd M (Rm M fun a H=>aI (dO ((k+1,s2,g2)) (by exact(H.dR (Pl:=[_,_,_,_]) (dH:=[_,_,_]) [1,2,3] Z M).sub ⟨M,M,M,M,M,aC⟩) ?_))))))
  (try dsimp only);exact⟨O,nk,by rw[hR2,mh O,qH,Mg M],hm0,O⟩
 intro eY a H
 try have pW:=dF eY
 refine dS<|K2 _ _<|bU<|fun _ K1=>?_
 have hF1:(nH l.length (fun s=>jm (bS us st li rv) note t l s) s).1=0:=by rw[hE,hR,mh O,jm]
 have hF2:(nH l.length (fun s=>jm (bS us st li rv) note t l s) s).1=0->s1=(nH l.length (fun s=>jm (bS us st li rv) note t l s) s).2:=fun h=>by rw[hE,hR,mh O,jm]
 exact kP H (SC (bZ K1 M (LR results197 M fun H=>H.hp.lU (L':=iV b ms ml mr mb mu s1.n::(mb,gG<|gW s1.bV)::L) (by repeat(first|exact nW _|apply List.Sublist.cons)) ⟨s1,cO vi hF1.symm,M,hF2⟩)))
end
section
theorem axW:aW 197:=aX func197 M
theorem axV:aW 195:=aX func195 M
theorem MO:dG prog 105 5 5:=⟨V⟩
theorem azJ:dG prog 101 0 0:=⟨V⟩
variable{us:List Int}
theorem aFL{G:GH}{b:Nat}{x:Int}(h:G b=some (.cells #[vi x] 41 (0,0))):av G (.sl 1 ([x].map fun k=>[li k])) (.slice (some ⟨b,0,none⟩) 1 1):=KD [x] h (show 1<=maxLen by decide)
theorem agB {p:Prop} (h:p:=by
 exact kP H (SC (bZ K1 M (LR results127 M fun H=>H.hp.lU (L':=iV b ms ml mr mb mu (s.n+(bO x:Nat)) :: (mb,gG (gW (s.bV))) :: L) (by repeat (first|exact nW _|apply List.Sublist.cons)) ⟨⟨s.n+(bO x:Nat),s.bV⟩,cO vi hF1.symm,M,hF2⟩)))):p:=h
theorem agC {p:Prop} (h:p:=by
 exact kP H (SR fun _ K1=>Rm M (ak K1 M (LR results127 M fun H=>H.hp.lU (L':=iV b ms ml mr mb mu (s.n+(bO x:Nat)) :: (mb,gG (gW (oN us s.bV x.id))) :: L) (by repeat (first|exact nW _|apply List.Sublist.cons)) ⟨⟨s.n+(bO x:Nat),oN us s.bV x.id⟩,cO vi hF1.symm,M,hF2⟩)))):p:=h
theorem auK {p:Prop} (h:p:=by
 exact kH H (ak K1 M (LR results127 M fun H=>H.hp.lU (L':=iV b ms ml mr mb mu (s3.n) :: (mb,gG (gW (s3.bV))) :: L) (by repeat (first|exact nW _|apply List.Sublist.cons)) ⟨s3,cO vi hF1.symm,M,hF2⟩))):p:=h
theorem Zp {p:Prop} (h:p:=by
 (try dsimp only)
 first
 |exact⟨by simp_all[qC,dX,jf,oO],fun _ _ h=>h,M,fun h7=>by first|omega|(exfalso;simp_all)⟩
 | exact ⟨by simp_all [qC,dX,jf,oO],Ak,M,fun h7=>by first|omega|(exfalso;simp_all)⟩):p:=h
theorem agL {p:Prop} (h:p:=by
 have hF2:(fM (bS us st li rv) body note t x s).1=0->s3=(fM (bS us st li rv) body note t x s).2:=by rw[hE];exact h3
 exact auK):p:=h
theorem Zk {p:Prop} (h:p:=by
 refine ⟨(⟨s.n+(bO x:Nat),s.bV⟩,Gt),by exact H.sub ⟨M,M,M,aC⟩,?_⟩;exact Zp):p:=h
theorem aEa{m:Nat}(ih:LV us m)(hm:m<=4294967296)(Gt:GH)(L:OL)(w0:World)(st:List dh)(li:List fV)(rv:List dJ)(b ms ml mr mb mu:Nat)(s:CS)(x:ah)(p d y f r:aj)(body note:Bool)(t:Int)
  (hck:yE us Gt st li rv ms ml mr mu)(hO:fZ Gt (iV b ms ml mr mb mu s.n::(mb,gG<|gW s.bV)::L) w0)(hh:kr Gt x.head p d y)(hf:av Gt (.sl 11<|x.flow.map ah.dat) f)(hr:av Gt (.sl 6<|x.rows.map aN.dat) r)(hz:bY x.dat<=m)(ht0:0<=t)(Kv:t<=4)(hs0:0<=s.n)(hs1:s.n+(bY x.dat:Nat)<=1099511627776) :
  Calls prog 127 #[aK b 0,.agg #[vi x.kind,vi x.code,vi x.id,.string x.text,p,vi x.head.marks.ins,vi x.head.marks.move,d,y,f,r],.agg #[.bool body,.bool note,vi t]] w0 (fG w0 Gt (iV b ms ml mr mb mu s.n::(mb,gG<|gW s.bV)::L) fun u G' L'=>SG b ms ml mr mb mu L (fM (bS us st li rv) body note t x s) u L'):=by
 obtain⟨pA,pn,pc,rfl⟩:=hh.props.form;obtain⟨dA,dn,dc,rfl⟩:=hh.dQ.form;obtain⟨lA,ln,lc,rfl⟩:=hh.layers.form;obtain⟨fA,fc,rfl,-⟩:=hf.slice;obtain⟨rA,rc,rfl,-⟩:=hr.slice;(iterate 2 rw[bM]at *);have hxz:=lY x;have hcl:=Fu x.text
 have FX:bO x<=x.text.size+1:=by unfold bO;split <;>omega
 have hE:=VY (bS us st li rv) body note t x s;refine iY (N:=117) (T:=[(0,_),(1,_),(2,_)]) func127 M ntmps127 M M hO fun a H=>dw<|fun _ K1=>eD (cs:=[_,_,_,_,_,_,_,_,_,_,_]) H wn M M M fun b4 a w hb4 H=>eD (cs:=[_,_,_]) H wn M M M fun b5 a w hb5 H=>kH H<|ak K1 M<|SQ fun _ K2=>SR fun _ K3=>fun a H=>aY bL (cs:=[_,_,_,_,_,_,_,_,_,_,_]) H wn M M (H.hp.dB 1 M M) M fun a H=>s_call axV H wn M (aAv _ _ H.ro x _ _ _ _ _ _ _ O) M ?_;clear H;rintro v15 _ a w ⟨rfl,rfl⟩-H;refine kH H (ak K3 M<|SR fun _ K1=>Rm M<|Rc M<|Kz K1<|Cd M ?_ ?_)<;>clear H K3 K1
 ·intro dL a H
  try have lD:=dT dL
  rw[Tj (r:=(iP x,s)) lD]at hE;exact kP H (SR fun _ K1=>Rm M (ak K1 M (LR results127 M fun H=>H.hp.lU (L':=iV b ms ml mr mb mu s.n::(mb,gG<|gW s.bV)::L) (by repeat(first|exact nW _|apply List.Sublist.cons)) ⟨s,by rw[hE],M,fun h=>by rw[hE]⟩)))
 intro dL a H
 try have lD:=dF dL
 rw[Mg (r:=(iP x,s))<|nL.1 lD]at hE;dsimp only at hE;refine kP H (Kc K2 (SR fun _ K1=>Rm M (Rk M (aV MO aF 2 M M (Rd M (Rk M (Rf MO M fun a H=>bH aF 2 (vs:=[_]) H wn M fun w H=>K1 _ _ (rQ (ι:=CS×GH) (Tc:=[(0,_),(4,_),(5,_)]) (Lc:=[(_,_),(_,_)]) (fun gh=>[]) (fun gh=>[iV b ms ml mr mb mu gh.1.n,(mb,gG<|gW gh.1.bV)]++L) (fun gh=>gh.2) (fun gh=>qC (bS us st li rv) body note t x.kind x.id ⟨s.n+(bO x:Nat),s.bV⟩=(0,gh.1)∧(∀b o,Gt b=some o->gh.2 b=some o)∧gh.1.n=s.n+(bO x:Nat)∧(x.kind=7->t<4)) (by exact H.sub ⟨M,M,M,aC⟩) ?_ ?_))))))))
 ·skip;refine kP H (SR fun _ K1=>aV iW aF 1 M M<|Kz K1<|SB<|SR fun _ K2=>Rc M<|ak K2 M<|Cd M ?_ ?_)<;>clear H K1 K2
  ·intro eZ a H
   try have p28:=dT eZ
   have hu:((bO x:Nat):Int)=dU x.text:=by rw[bO,ay p28]
   refine kP H<|SR fun _ K1=>aV pE gN 1 M M fun a H=>s_call aaF H wn M (aad _ _ H.ro x.text O) M ?_;clear H;rintro v33 _ a w ⟨rfl,rfl⟩-H;refine kH H<|Rm M ?_;clear H;intro a H;(iterate 2 refine iH H wn M M M ?_;clear H;intro a H);refine kH H<|Ra M<|ak K1 M<|SC<|Rm M<|Rk M<|aV MO aF 2 M M<|Rm M<|Rs M<|Rd M ?_;clear H K1;intro a H;rw[show s.n+1+((dU x.text:Int)-1)=s.n+(bO x:Nat) by omega]at H;exact kH H<|Rk M<|Rf MO M fun a H=>bH aF 2 (vs:=[_]) H wn M fun w H=>aI Zk
  intro eZ a H
  try have p28:=dF eZ
  have hu:((bO x:Nat):Int)=1:=by rw[bO,au p28];rfl
  rw[show s.n+1=s.n+((bO x:Nat):Int) by omega]at H;refine kP H (SR fun _ K1=>Rc M<|ak K1 M<|Cd M ?_ ?_)<;>clear H K1
  ·intro h45 a H
   try have p45:=dT h45
   refine kP H (SR fun _ K1=>aV azJ wm 0 M M<|Rn M<|Kz K1<|Cd M ?_ ?_)<;>clear H K1
   ·intro U9 a H
    try have p49:=dT U9
    refine bU<|fun _ K1=>?_
    have hF1:(fM (bS us st li rv) body note t x s).1=19:=by rw[hE];simp[jf,qC,p45,dX,U9]
    have hF2:(fM (bS us st li rv) body note t x s).1=0->(⟨s.n+(bO x:Nat),s.bV⟩:CS)=(fM (bS us st li rv) body note t x s).2:=fun h=>absurd (hF1.symm.trans h) Z;exact agB
   intro U9 a H
   try have p49:=dF U9
   exact fU Zk
  intro h45 a H
  try have p45:=dF h45
  refine kP H (SR fun _ K1=>Rc M<|ak K1 M<|Cd M ?_ ?_)<;>clear H K1
  ·intro h50 a H
   try have p50:=dT h50
   refine kP H<|SQ fun _ K1=>SR fun _ K2=>aV aaG wm 0 M M fun a H=>s_call qx H wn M (qF _ _ H.ro _ 19) M ?_;clear H;rintro v54 _ a w ⟨rfl,rfl⟩-H;refine iT tQ jS [_] [_] H wn M M M M M (by intro i q h;match i,h with|0,h=>exact h|n+1,h=>simp at h) M M ?_;clear H;intro b55 a w aJY H;obtain⟨LU,Ak,aBL,H⟩:=H.eX;refine s_call uT H wn M (uV _ _ H.ro _ _<|aFL aBL) M ?_;clear H;rintro v56 _ a w ⟨rfl,rfl⟩-H;refine kH H (ak K2 M<|SR fun _ K3=>Rm M<|Rc M<|Kz K3<|Cd M ?_ ?_)<;>clear H K2 K3
   ·intro pG a H
    try have p58:=dT pG
    have e58:dX note 19≠0:=fun h=>p58 (by rw[h];rfl)
    have aDS:fD [dX note 19]=dX note 19:=by simp[fD,e58]
    rw[aDS]at H
    have hF1:(fM (bS us st li rv) body note t x s).1=dX note 19:=by rw[hE];simp[jf,qC,p50,e58]
    have hF2:(fM (bS us st li rv) body note t x s).1=0->(⟨s.n+(bO x:Nat),s.bV⟩:CS)=(fM (bS us st li rv) body note t x s).2:=fun h=>absurd (hF1.symm.trans h)<|e58;exact kP H (SR fun _ K2=>Rm M (ak K2 M (LR results127 M fun H=>H.hp.lU (L':=iV b ms ml mr mb mu (s.n+(bO x:Nat))::(mb,gG<|gW<|s.bV)::L) (by repeat(first|exact nW _|apply List.Sublist.cons)) ⟨⟨s.n+(bO x:Nat),s.bV⟩,cO vi hF1.symm,M,hF2⟩)))
   intro pG a H
   try have p58:=dF pG
   have e58:dX note 19=0:=Decidable.byContradiction fun h=>p58 (by simp[fD,h]);refine kP H<|Kc K1<|SR fun _ K2=>Rm M<|aV yO aF 1 M M fun a H=>gM aas (Li:=[_,_]) (L:=iV b ms ml mr mb mu _::(mb,gG<|gW s.bV)::L) H wn M (Z5 _ _ _ st li rv b ms ml mr mb mu _ s.bV x.id (hck.mono Ak)<|Hp.owns (Li:=[_,_]) H.hp) M ?_;clear H;rintro v63 _ _ a w ⟨rfl,rfl,rfl⟩-H;dsimp only[lca,bq]at H;refine kH H (ak K2 M<|SR fun _ K1=>Rm M<|Rc M<|Kz K1<|Cd M ?_ ?_)<;>clear H K2 K1
   ·intro vJ a H
    try have p65:=dT vJ
    have hF1:(fM (bS us st li rv) body note t x s).1=uG us s.bV x.id:=by rw[hE];simp[jf,qC,p50,e58,oO,p65]
    have hF2:(fM (bS us st li rv) body note t x s).1=0->(⟨s.n+(bO x:Nat),oN us s.bV x.id⟩:CS)=(fM (bS us st li rv) body note t x s).2:=fun h=>absurd (hF1.symm.trans h)<|p65;exact agC
   intro vJ a H
   try have p65:=dF vJ
   have e65:uG us s.bV x.id=0:=nL.1 p65;exact fU ⟨(⟨s.n+(bO x:Nat),oN us s.bV x.id⟩,LU),by exact H.sub ⟨M,M,M,aC⟩,Zp⟩
  intro h50 a H
  try have p50:=dF h50
  refine kP H (SR fun _ K1=>Rc M<|ak K1 M<|Cd M ?_ ?_)<;>clear H K1
  ·intro h67 a H
   try have p67:=dT h67
   refine kP H (SQ fun _ K1=>SR fun _ K2=>aV Qh aF 0 M M<|Rc M<|Kz K2<|Cd M ?_ ?_)<;>clear H K2
   ·intro h71 a H
    try have p71:=dT h71
    refine bU<|fun _ K2=>?_
    have hF1:(fM (bS us st li rv) body note t x s).1=17:=by rw[hE];simp[jf,qC,p67,dX,p71]
    have hF2:(fM (bS us st li rv) body note t x s).1=0->(⟨s.n+(bO x:Nat),s.bV⟩:CS)=(fM (bS us st li rv) body note t x s).2:=fun h=>absurd (hF1.symm.trans h) Z;exact kP H (SC (bZ K2 M (LR results127 M fun H=>H.hp.lU (L':=iV b ms ml mr mb mu (s.n+(bO x:Nat))::(mb,gG<|gW<|s.bV)::L) (by repeat(first|exact nW _|apply List.Sublist.cons)) ⟨⟨s.n+(bO x:Nat),s.bV⟩,cO vi hF1.symm,M,hF2⟩)))
   intro h71 a H
   try have p71:=dF h71
   have e71:¬4<=t:=by omega
   refine kP H<|Kc K1<|SR fun _ K2=>Rm M<|aV yO aF 1 M M fun a H=>gM aas (Li:=[_,_]) (L:=iV b ms ml mr mb mu _::(mb,gG<|gW s.bV)::L) H wn M (Z5 _ _ _ st li rv b ms ml mr mb mu _ s.bV x.id hck<|Hp.owns (Li:=[_,_]) H.hp) M ?_;clear H;rintro v75 _ _ a w ⟨rfl,rfl,rfl⟩-H;dsimp only[lca,bq]at H;refine kH H (ak K2 M<|SR fun _ K1=>Rm M<|Rc M<|Kz K1<|Cd M ?_ ?_)<;>clear H K2 K1
   ·intro wJ a H
    try have F9:=dT wJ
    have hF1:(fM (bS us st li rv) body note t x s).1=uG us s.bV x.id:=by rw[hE];simp[jf,qC,p67,dX,e71,oO,F9]
    have hF2:(fM (bS us st li rv) body note t x s).1=0->(⟨s.n+(bO x:Nat),oN us s.bV x.id⟩:CS)=(fM (bS us st li rv) body note t x s).2:=fun h=>absurd (hF1.symm.trans h)<|F9;exact agC
   intro wJ a H
   try have F9:=dF wJ
   have e77:uG us s.bV x.id=0:=nL.1 F9;exact fU ⟨(⟨s.n+(bO x:Nat),oN us s.bV x.id⟩,Gt),by exact H.sub ⟨M,M,M,aC⟩,Zp⟩
  intro h67 a H
  try have p67:=dF h67
  refine kP H (SR fun _ K1=>Rc M<|ak K1 M<|Cd M ?_ ?_)<;>clear H K1
  ·intro Ic a H
   try have p79:=dT Ic
   refine kP H<|SR fun _ K1=>aV yO aF 1 M M fun a H=>s_call zX H wn M (Aq _ _ H.ro x.id 1 1073741824) M ?_;clear H;rintro v83 _ a w ⟨rfl,rfl⟩-H;refine kH H (Rn M<|Kz K1<|Cd M ?_ ?_)<;>clear H K1
   ·intro h84 a H
    try have p84:=dT h84
    refine bU<|fun _ K1=>?_
    have e84:¬(1<=x.id∧x.id<=1073741824):=by have h0:=h84;simp at h0;omega
    have hF1:(fM (bS us st li rv) body note t x s).1=18:=by rw[hE];simp[jf,qC,p79,dX,e84]
    have hF2:(fM (bS us st li rv) body note t x s).1=0->(⟨s.n+(bO x:Nat),s.bV⟩:CS)=(fM (bS us st li rv) body note t x s).2:=fun h=>absurd (hF1.symm.trans h) Z;exact agB
   intro h84 a H
   try have p84:=dF h84
   exact fU Zk
  intro Ic a H
  try have p79:=dF Ic
  refine fU ⟨(⟨s.n+(bO x:Nat),s.bV⟩,Gt),by exact H.sub ⟨M,M,M,aC⟩,?_⟩;(try dsimp only)
  first
  |exact⟨by simp_all[qC,dX,jf,oO],fun _ _ h=>h,M,fun h7=>by first|omega|(exfalso;simp_all)⟩
  |exact⟨by simp_all[qC,dX,jf,oO],Ak,M,fun h7=>by first|omega|(exfalso;simp_all)⟩
 clear H;rintro⟨s1,g⟩ a w hI H;dsimp only at hI H;obtain⟨hP,Al,aKr,ht7⟩:=hI;rw[hP,Mg M]at hE;dsimp only at hE;replace hck:=hck.mono Al;replace hh:=hh.mono Al;replace hf:=hf.mono Al;replace hr:=hr.mono Al;dsimp only[lca,bq]at H;refine kP H<|SQ fun _ K1=>SR fun _ K2=>Rm M<|aV iW aF 1 M M<|Rf vG M fun a H=>aY oC (cs:=[_,_,_,_,_]) H wn M M (H.hp.dB 1 M M) M fun a H=>gM UA (Li:=[_,_]) (L:=iV b ms ml mr mb mu s1.n::(mb,gG<|gW s1.bV)::L) H wn M (Vl _ _ _ st li rv b ms ml mr mb mu _ hck (Hp.owns (Li:=[_,_]) H.hp) x.kind x.head _ _ _ hh O) M ?_;clear H;rintro v90 _ _ a w ⟨rfl,rfl,rfl⟩-H;dsimp only[lca,bq]at H;refine kH H (ak K2 M<|SR fun _ K3=>Rm M<|Rc M<|Kz K3<|Cd M ?_ ?_)<;>clear H K2 K3
 ·intro h92 a H
  try have WA:=dT h92
  have hF1:(fM (bS us st li rv) body note t x s).1=iX (bS us st li rv) x.kind x.head:=by rw[hE,Tj (r:=(iX (bS us st li rv) x.kind x.head,s1)) WA]
  have hF2:(fM (bS us st li rv) body note t x s).1=0->s1=(fM (bS us st li rv) body note t x s).2:=fun h=>absurd (hF1.symm.trans h) WA;exact kP H (SR fun _ K2=>Rm M (ak K2 M (LR results127 M fun H=>H.hp.lU (L':=iV b ms ml mr mb mu (s1.n)::(mb,gG<|gW<|s1.bV)::L) (by repeat(first|exact nW _|apply List.Sublist.cons)) ⟨s1,cO vi hF1.symm,M,hF2⟩)))
 intro h92 a H
 try have WA:=dF h92
 rw[Mg (r:=(iX (bS us st li rv) x.kind x.head,s1))<|nL.1 WA]at hE;dsimp only at hE;refine kP H (Kc K1<|SQ fun _ K2=>SR fun _ K3=>aV iW aF 1 M M<|Kz K3<|SB<|SR fun _ K4=>Rc M<|ak K4 M<|Cd M ?_ ?_)<;>clear H K1 K3 K4
 ·intro vK a H
  try have RU:=dT vK
  rw[ay RU]at hE;refine kP H<|SR fun _ K1=>Rm M<|aV uU eG 1 M M<|aV Qh aF 0 M M fun a H=>jM La [_,_,_] H wn M M M M fun a H=>gM UC (Li:=[_,_]) (L:=iV b ms ml mr mb mu s1.n::(mb,gG<|gW s1.bV)::L) H wn M (ih _ _ _ st li rv b ms ml mr mb mu s1 x.flow _ false true t hck (Hp.owns (Li:=[_,_]) H.hp) hf O ht0 Kv O O) M ?_;clear H;rintro aKN _ _ a w ⟨rfl,s3,rfl,rfl,h3⟩-H;dsimp only[lca,bq]at H
  have hF1:(fM (bS us st li rv) body note t x s).1=(jH (bS us st li rv) false true t x.flow s1).1:=by rw[hE]
  exact agL
 intro vK a H
 try have RU:=dF vK
 rw[au RU]at hE;refine kP H (SR fun _ K1=>Rc M<|ak K1 M<|Cd M ?_ ?_)<;>clear H K1
 ·intro uo a H
  try have N8:=dT uo
  rw[ay N8]at hE;refine kP H (SR fun _ K1=>Rm M (aV mZ lX 1 M M (aV aaG wm 0 M M (aV Qh aF 0 M M (Rd M fun a H=>jM La [_,_,_] H wn M M M M fun a H=>gM axW (Li:=[_,_]) (L:=iV b ms ml mr mb mu s1.n::(mb,gG<|gW s1.bV)::L) H wn M (rows_ok ih hm _ _ _ st li rv b ms ml mr mb mu s1 x.rows _ note (t+1) hck (Hp.owns (Li:=[_,_]) H.hp) hr O O (by have:=ht7 N8;omega) O O) rfl ?_)))));clear H;rintro aKP _ _ a w ⟨s3,rfl,rfl,h3⟩-H;dsimp only[lca,bq]at H
  have hF1:(fM (bS us st li rv) body note t x s).1=(nH x.rows.length (fun s=>jm (bS us st li rv) note (t+1) x.rows s) s1).1:=by rw[hE]
  exact agL
 intro uo a H
 try have N8:=dF uo
 rw[au N8]at hE
 have hF1:(fM (bS us st li rv) body note t x s).1=0:=by rw[hE]
 have hF2:(fM (bS us st li rv) body note t x s).1=0->s1=(fM (bS us st li rv) body note t x s).2:=fun h=>by rw[hE]
 exact kP H (Kc K2 (SR fun _ K1=>ak K1 M (LR results127 M fun H=>H.hp.lU (L':=iV b ms ml mr mb mu (s1.n)::(mb,gG<|gW<|s1.bV)::L) (by repeat(first|exact nW _|apply List.Sublist.cons)) ⟨s1,cO vi hF1.symm,M,hF2⟩)))
end
section
theorem axp:aW 127:=aX func127 M
theorem axo:aW 126:=aX func126 M
variable{us:List Int}
def IxL(fv:aj)(Gi:GH)(n:Nat)(E:Nat->Int){σ:Type}(B:σ->OL)(S:Nat->σ):Prop:=∀i,i<n->∀(G1:GH)(w1:World),(∀b o,Gi b=some o->G1 b=some o)->fZ G1 (B (S i)) w1->
 uN prog fv [vi i] w1 (fG w1 G1 (B (S i)) fun u G' L'=>∃s,u=vi (E i)∧L'=B s∧(E i=0->s=S (i+1)))
theorem atD(G:GH)(w0:World){σ:Type}(B:σ->OL)(S:Nat->σ)(n:Nat)(E:Nat->Int)(fv:aj)(hO:fZ G (B<|S 0) w0)(hn:n<=4611686018427387904)(hf:IxL fv G n E B S) :
  Calls prog 117 #[vi n,fv] w0 (fG w0 G (B<|S 0) fun u G' L'=>∃s,u=vi (kW E n)∧L'=B s∧(kW E n=0->s=S n)):=by
 refine iY (N:=18) (T:=[(0,_),(1,_)]) func117 M ntmps117 M M hO ?_;intro a H;refine kP H<|SR fun _ K1=>ak K1 M<|SQ fun _ K2=>SR fun _ K3=>Rm M<|Rm M<|Kz K3<|SB ?_;clear H K1 K3;intro a H;skip;refine dY (ι:=Nat×GH) (Tc:=[(1,_),(7,_)]) (Lc:=[]) (fun gh=>[(8,vi gh.1)]) (fun gh=>[]++B (S gh.1)) (fun gh=>gh.2) (fun gh=>gh.1<=n∧fD (((List.range n).map E).drop gh.1)=kW E n∧(∀b o,G b=some o->gh.2 b=some o)) (fun gh=>n-gh.1) ((0,G)) (by exact H.sub ⟨M,M,M,aC⟩) ?_ ?_
 ·exact Fb
 clear H;rintro⟨k,g⟩ a w hI H;dsimp only at hI H;obtain⟨hk,he,hgm⟩:=hI;dsimp only[lca,bq]at H;refine kP H (SR fun _ K1=>Rc M<|Kz K1<|SQ fun _ K3=>Cd M ?_ ?_)<;>clear H K1
 ·intro h9 a H
  try have p9:=dT h9
  have hk2:k<n:=by omega
  refine kP H<|Kc K3<|SQ fun _ K1=>SB<|SR fun _ K4=>Rm M<|ak K4 M<|SR fun _ K5=>Rm M<|Rm M ?_;clear H K3 K4;intro a H;refine BM (Li:=[]) (L:=B<|S k) H wn M M (hf k hk2 _ _ hgm<|Hp.owns (Li:=[]) H.hp) M ?_;clear H;rintro v13 LJ L13 a w ⟨s3,rfl,rfl,h3⟩ Vt H;refine kH H (ak K5 M<|SR fun _ K3=>Rm M<|Rc M<|Kz K3<|Cd M ?_ ?_)<;>clear H K5 K3
  ·intro pF a H
   try have vP:=dT pF
   have hE:kW E n=E k:=by rw[Pb hk2,ay vP]at he;exact he.symm
   exact kP H (SR fun _ K3=>Rm M<|ak K3 M<|LR results117 M fun H=>H.hp.gX ⟨s3,by rw[hE],M,fun h=>absurd (hE.symm.trans h) vP⟩)
  intro pF a H
  try have vP:=dF pF
  have hS:=h3<|nL.1 vP;subst hS;exact aiw
 intro h9 a H
 try have p9:=dF h9
 refine dS ?_;refine K2 _ _ ?_;clear K2;exact kP H (SR fun _ K1=>ak K1 M (LR results117 M fun H=>H.hp.gX ⟨S n,cO vi (by rw[mh (by simp;omega)]at he;exact he),by rw[show k=n by omega],fun _=>rfl⟩))
abbrev Uj(b ms ml mr mb mu:Nat)(L:OL)(s:CS):OL:=iV b ms ml mr mb mu s.n::(mb,gG (gW s.bV))::L
theorem aD9{m:Nat}(ih:LV us m)(hm:m<=4294967296){G:GH}{L:OL}{st:List dh}{li:List fV}{rv:List dJ}{b ms ml mr mb mu:Nat}{s:CS}{l:List ah}{v:aj}{body note:Bool}{t:Int}{x3 x4 x5:Nat}
  (hck:yE us G st li rv ms ml mr mu)(h3:aJ G x3 0=some (aK b 0))(h4:aJ G x4 0=some v)(h5:∀(j:Nat)(u:aj),[.bool body,.bool note,vi t][j]?=some u->aJ G x5 (0+j)=some u)
  (hv:av G (.sl 11<|l.map ah.dat) v)(hz:aR l<=m)(ht0:0<=t)(Kv:t<=4)(hs0:0<=s.n)(hs1:s.n+(aR l:Nat)<=1099511627776) :
  IxL (.func (.func 126) #[] #[aK x3 0,aK x4 0,aK x5 0]) G l.length (Fx (fM (bS us st li rv) body note t) l s) (Uj b ms ml mr mb mu L) (tN (fM (bS us st li rv) body note t) l s):=by
 intro k hk G1 w0 QU hO;refine kJ (caps:=[aK x3 0,aK x4 0,aK x5 0]) axo ?_;replace h3:=aH QU h3;replace h4:=aH QU h4;replace h5:=fun j u hj=>aH QU<|h5 j u hj;replace hck:=hck.mono QU;replace hv:=hv.mono QU;obtain⟨A,c,rfl,hc1,hc2,hg⟩:=hv.slice;rw[bM]at *;obtain⟨o,xo,pA,pn,pc,dA,dn,dc,yA,yn,yc,fA,fn,fc,rA,rn,rc,rfl,hrow,hhd,hfl,hrw⟩:=vI hk hg;obtain⟨hn0,hn1⟩:=arP (bS us st li rv) body note t l s k O
 have hdz:aR (l.drop k)=1+bY l[k].dat+aR (l.drop<|k+1):=by
  simp only[aR];rw[mg hk,dV,fE]
 have KA:=I8<|ig hk
 have hE:Fx (fM (bS us st li rv) body note t) l s k=(fM (bS us st li rv) body note t l[k]<|tN (fM (bS us st li rv) body note t) l s k).1:=by unfold Fx;rw[gF hk]
 have hS:tN (fM (bS us st li rv) body note t) l s (k+1)=(fM (bS us st li rv) body note t l[k]<|tN (fM (bS us st li rv) body note t) l s k).2:=by rw[tN,gF hk]
 rw[hE,hS]
 generalize tN (fM (bS us st li rv) body note t) l s k=s1 at *
 refine iY (N:=13) (T:=[(0,_),(1,_),(2,_),(3,_)]) func126 M ntmps126 M M hO<|SR fun _ K1=>ak K1 M<|SQ fun _ K2=>fun a H=>dI hmx [[],[],[],[1,2],[1,2,3],[],ra 0 6,ra 0 7] [6,7] V [_,_,_,_,.agg #[vi l[k].kind,vi l[k].code,vi l[k].id,.string l[k].text,.slice pA pn pc,vi l[k].head.marks.ins,vi l[k].head.marks.move,.slice dA dn dc,.slice yA yn yc,.slice fA fn fc,.slice rA rn rc],.agg #[.bool body,.bool note,vi t]] H (aD (X0 M fun hG=>Rg OC M<|aH hG h3) (X0 M fun hG=>Rg eG M<|aH hG h4) (Z0 M<|Rm M) (Z2 1 7 2 8 M<|Ri dM bL M M)<|aD ?_ ?_ (bX M) (bX M) dz) ?_
 ·exact iE 3 9 M M fun _ a w G1 hG HT H fin=>aY bL (cs:=[_,_,_,_,_,_,_,_,_,_,_]) H wn M M (fun j v hj=>H.hp.aJ<|aH hG<|hrow j v hj) M jD
 ·exact Ye M fun _ a w G1 hG HT H fin=>aY Xf (cs:=[.bool body,.bool note,vi t]) H wn M M (fun j v hj=>H.hp.aJ<|aH hG<|h5 j v hj) M jD
 clear H;intro a w G jL H hv;have H:=H.aQ (hv 0 6 M M) M;have H:=H.aQ (hv 4 10 M M) M;have H:=H.aQ (hv 5 11 M M) M;clear hv;refine gM axp (Li:=[]) (L:=Uj b ms ml mr mb mu L s1) H wn M (aEa ih hm _ _ _ st li rv b ms ml mr mb mu s1 l[k] _ _ _ _ _ body note t (hck.mono jL) (Hp.owns (Li:=[]) H.hp) (hhd.mono jL) (hfl.mono jL) (hrw.mono jL) O ht0 Kv O O) M ?_;rintro v12 _ _ a w ⟨s3,rfl,rfl,h12⟩-H;dsimp only[List.nil_append]at H;exact kH H<|Ra M fun a H=>aI ⟨M,K2 _ _<|lr H results126 M<|H.hp.gX ⟨s3,M,M,h12⟩⟩
theorem aEc{m:Nat}(ih:LV us m)(hm:m<=4294967296):LV us (m+1):=by
 intro G L w0 st li rv b ms ml mr mb mu s l v body note t hck hO hv hz ht0 Kv hs0 hs1;obtain⟨hA1,hA2⟩:=anU (bS us st li rv) body note t l s;refine Calls.aud (R:=fun u G' L'=>SG b ms ml mr mb mu L (jH (bS us st li rv) body note t l s) u L') ?_ fun _ _ _ h=>h;obtain⟨A,c,rfl,hc1,hc2,-⟩:=hv.slice;rw[bM]at *;have hll:=wo l;refine iY (N:=11) (T:=[(0,_),(1,_),(2,_)]) func51 M ntmps51 M M hO fun a H=>dw<|fun _ K1=>eD (cs:=[_]) H wn M M M fun b3 a w hb3 H=>eD (cs:=[_]) H wn M M M fun b4 a w hb4 H=>eD (cs:=[_,_,_]) H wn M M M fun b5 a w hb5 H=>kH H<|ak K1 M<|SQ fun _ K2=>?_;clear H K1;intro a H;obtain⟨Ga5,Vz,rE,H⟩:=H.eX;obtain⟨Ga4,Np,Ai,H⟩:=H.eX;obtain⟨Ga,Ih,uq,H⟩:=H.eX;replace rE:=Ih _ _<|Np _ _ rE;replace Ai:=Ih _ _ Ai;have hma:∀b o,G b=some o->Ga b=some o:=fun b o h=>Ih _ _<|Np _ _<|Vz _ _ h
 have g3:aJ Ga b3 0=some (aK b 0):=by unfold aJ;rw[uq];rfl
 have g4:aJ Ga b4 0=some (.slice A l.length c):=by unfold aJ;rw[Ai];rfl
 have g5:∀(j:Nat)(u:aj),[.bool body,.bool note,vi t][j]?=some u->aJ Ga b5 (0+j)=some u:=by
  intro j u hj;unfold aJ;rw[rE];simpa using hj
 have hcb:=aD9 (mb:=mb) (L:=L) (s:=s) ih hm (hck.mono hma) g3 g4 g5 (hv.mono hma) O ht0 Kv hs0 hs1;refine kP H (SC (Rg eG M (by assumption)<|Rl dM M fun a H=>wU H wn M M fun a H=>gM MJ (Li:=[]) (L:=Uj b ms ml mr mb mu L s) H wn M (atD _ _ (Uj b ms ml mr mb mu L) (tN (fM (bS us st li rv) body note t) l s) l.length (Fx (fM (bS us st li rv) body note t) l s) _ (Hp.owns (Li:=[]) H.hp) O hcb) M ?_));rintro v10 _ _ a w ⟨s3,rfl,rfl,h10⟩-H;dsimp only[List.nil_append]at H;exact kH H (bZ K2 M<|LR results51 M fun H=>H.hp.gX ⟨s3,by rw[hA1],M,fun h=>by rw[hA1]at h;exact(h10 h).trans (hA2<|hA1.trans h).symm⟩)
theorem acH:∀m:Nat,m<=4294967297->LV us m
 |0,_=>fun _ _ _ _ _ _ _ _ _ _ _ _ _ _ _ _ _ _ _ _ _ h=>absurd h O
 |m+1,hm=>aEc (acH m O) O
end
theorem azU:dG prog 81 1 1:=⟨V⟩
theorem azV:dG prog 81 2 2:=⟨V⟩
theorem axk:aW 120:=aX func120 M
theorem axj:aW 118:=aX func118 M
theorem aGP{G:GH}{bl:Nat}{l:List dJ}{A:Option Addr}{n c:Nat}(hb:aJ G bl 0=some (.slice A n c))(hv:av G (.sl 3<|l.map dJ.dat) (.slice A n c)):wz (.func (.func 120) #[] #[aK bl 0]) G l.length fun k=>(l[k]?.map dJ.id).getD 0:=by
 intro k hk G1 w0 hm hG;refine kJ (caps:=[aK bl 0]) axk ?_;replace hb:=aH hm hb
 obtain rfl:n=l.length:=by have:=hv.len;simpa using this
 obtain⟨b,o,rfl,hrow⟩:=adI (hv.mono hm) hk;have hq:=hrow 0 _ M;exact eN [(0,_),(1,_)] func120 M ntmps120 M M hG (SR fun _ K1=>ak K1 M<|SR fun _ K2=>Rg Dz M (by assumption)<|Rm M<|Ri tV qU M M<|Rf aaN M<|Rg aF M (by assumption)<|ak K2 M<|LR results120 M fun H=>H.rt (by dsimp only;rw[gF hk];rfl))
def WK(l:List dJ)(i:Nat)(x:dJ):Int:=fD [yh (fun k=>(l[k]?.map dJ.id).getD 0) i,dX (!yK x.author) 39,dX (!decide (0<=x.time∧x.time<=1099511627776)) 40]
def Ey(l:List dJ)(i:Nat):Int:=match l[i]? with|some x=>WK l i x|none=>0
theorem aGs{G:GH}{bl:Nat}{l:List dJ}{A:Option Addr}{n c:Nat}(hb:aJ G bl 0=some (.slice A n c))(hv:av G (.sl 3<|l.map dJ.dat) (.slice A n c))(hl:l.length<=4294967296)(ht:∀x∈l,x.author.size<4611686018427387904):wz (.func (.func 118) #[] #[aK bl 0]) G l.length (Ey l):=by
 intro k hk G1 w0 hm hG;refine kJ (caps:=[aK bl 0]) axj ?_;replace hb:=aH hm hb;replace hv:=hv.mono hm;have hcb:=aGP hb hv
 obtain rfl:n=l.length:=by have:=hv.len;simpa using this
 obtain⟨b,o,rfl,hrow⟩:=adI hv hk;have hte:=ht _<|ig hk
 have he:Ey l k=WK l k l[k]:=by unfold Ey;rw[gF hk]
 obtain⟨x,hx⟩:∃x,x=l[k]:=⟨_,M⟩;rw[<-hx]at hrow hte he;refine eN [(0,_),(1,_)] func118 M ntmps118 M M hG ?_;intro a H;refine kP H<|SR fun _ K1=>ak K1 M<|SQ fun _ K2=>?_;clear H K1;intro a H;have H:=H.sub (T':=[(0,_),(1,_)]) ⟨M,M,aC⟩;refine dI hmx [[],[],[0,1],[],[],[3,4],[3,4,5],ra 3 4,ra 0 8,ra 0 9,ra 0 10,[],[],[11,12],[11,12,13],ra 11 4,ra 0 16,ra 0 17,ra 0 18,ra 0 19,ra 0 20,ra 0 21] [19,20,21] V [_,.func (.func 120) #[] #[aK bl 0],vi (yh (fun k=>(l[k]?.map dJ.id).getD 0) k),_,_,_,_,_,.bool (yK x.author),_,vi (dX (!yK x.author) 39),_,_,_,_,_,.bool (decide (0<=x.time∧x.time<=1099511627776)),_,vi<|dX (!decide (0<=x.time∧x.time<=1099511627776)) 40] H (aD (Z0 M<|Rm M) ?_ ?_ (X0 M fun hG=>Rg Dz M<|aH hG hb)<|aD (Z0 M<|Rm M) (Z2 3 7 4 8 M<|Ri tV qU M M) (Z1 5 9 M<|Rf azU M) (X1 6 10 M fun hG=>Rg gN M<|aH hG<|hrow 1 _ M)<|aD ?_ (Z1 8 12 M<|Rn M) ?_ (X0 M fun hG=>Rg Dz M<|aH hG hb)<|aD (Z0 M<|Rm M) (Z2 11 15 12 16 M<|Ri tV qU M M) (Z1 13 17 M<|Rf azV M) (X1 14 18 M fun hG=>Rg aF M<|aH hG<|hrow 2 _ M)<|aD ?_ (Z1 16 20 M<|Rn M) ?_ (bX M)<|bE (bX M)<|bE (bX M) dz) ?_
 ·exact Jw
 ·exact aif
 ·refine iE 7 11 M M fun _ a w G1 hG HT H fin=>?_;refine s_call ajL H wn M (afs _ _ H.ro x.author hte) M ?_;clear H;rintro v12 EX a w ⟨rfl,-⟩ pI H;exact fin H pI<|rfl
 ·refine iE 9 13 M M fun _ a w G1 hG HT H fin=>?_;refine s_call qx H wn M (qF _ _ H.ro _ 39) M ?_;clear H;rintro v14 DR a w ⟨rfl,-⟩ J2 H;exact fin H J2<|rfl
 ·refine iE 15 19 M M fun _ a w G1 hG HT H fin=>?_;refine s_call zX H wn M (Aq _ _ H.ro x.time 0 1099511627776) M ?_;clear H;rintro v20 Jd a w ⟨rfl,-⟩ aAQ H;exact fin H aAQ<|rfl
 ·refine iE 17 21 M M fun _ a w G1 hG HT H fin=>?_;refine s_call qx H wn M (qF _ _ H.ro _ 40) M ?_;clear H;rintro v22 G22 a w ⟨rfl,-⟩ abf H;exact fin H abf<|rfl
 clear H;intro a w G jL H hv;have H:=H.aQ (hv 2 6 M M) M;have H:=H.aQ (hv 10 14 M M) M;have H:=H.aQ (hv 18 22 M M) M;clear hv;refine iT tQ jS [_,_,_] [_,_,_] H wn M M M M M (by intro i q h;match i,h with|0,h=>exact h|1,h=>exact h|2,h=>exact h|n+3,h=>simp at h) M M ?_;clear H;intro b23 a w aBE H;obtain⟨Je,rV,aBF,H⟩:=H.eX;refine s_call uT H wn M (uV _ _ H.ro _ _ (KD [yh (fun k=>(l[k]?.map dJ.id).getD 0) k,dX (!yK x.author) 39,dX (!decide (0<=x.time∧x.time<=1099511627776)) 40] aBF (show 3<=maxLen by decide))) rfl ?_;clear H;rintro v24 _ a w ⟨rfl,rfl⟩-H;refine kH H<|Ra M ?_;clear H;intro a H;refine aI ⟨M,?_⟩;refine K2 _ _ ?_;clear K2;refine lr H results118 M ?_;exact H.rt (by rw[he,WK])
def Fj(l:List dJ):Int:=fD [dX (decide (256<(l.length:Int))) 9,kW (Ey l) (min l.length 256)]
theorem avE(G:GH)(w0:World)(hG:Hold G w0)(l:List dJ)(v:aj)(hv:av G (.sl 3<|l.map dJ.dat) v)(hl:l.length<=4294967296)(ht:∀x∈l,x.author.size<4611686018427387904) :
  Calls prog 47 #[v] w0 (bD w0 G fun u G'=>u=vi (Fj l)):=by
 obtain⟨A,c,rfl,hc1,hc2,-⟩:=hv.slice;rw[bM]at *;refine eN [(0,_)] func47 M ntmps47 M M hG fun a H=>dw<|fun _ K1=>eD (cs:=[_]) H wn M M M fun b1 a w hb1 H=>kH H<|ak K1 M<|SQ fun _ K2=>?_;clear H K1;intro a H;have H:=H.sub (T':=[(1,_)]) ⟨M,aC⟩;obtain⟨Ga,hma,hb1',H⟩:=H.eX
 have hbl:aJ Ga b1 0=some (.slice A l.length c):=by unfold aJ;rw[hb1'];rfl
 have hcb:=aGs hbl (hv.mono hma) hl ht;refine dI hmx [[],[0],[0,1],[0,1,2],[],[4],[4,5],[],ra 0 8,ra 0 9,ra 0 10,ra 0 11] [9,10,11] V [_,_,_,vi (dX (decide (256<(l.length:Int))) 9),_,_,vi ((min l.length 256:Nat):Int),.func (.func 118) #[] #[aK b1 0],vi<|kW (Ey l)<|min l.length 256] H (aD (X0 M fun hG=>Rg Dz M<|aH hG hbl) (Z1 0 3 M<|Rl tV M) (Z1 1 4 M<|Rc M) ?_<|aD (X0 M fun hG=>Rg Dz M<|aH hG hbl) (Z1 4 7 M<|Rl tV M) ?_ ?_<|aD ?_ (bX M) (bX M) (bX M) dz) ?_
 ·exact TY
 ·exact Ub
 ·exact Jw
 ·exact fu 6 9 7 10 M M fun _ a w G1 hG HT H fin=>s_call MJ H wn M (Pg _ _ H.ro (min l.length 256) (Ey l) _ O ((hcb.mono hG).le<|Nat.min_le_left _ _)) M PG
 clear H;intro a w G jL H hv;have H:=H.aQ (hv 3 6 M M) M;have H:=H.aQ (hv 8 11 M M) M;clear hv;refine iT tQ jS [_,_] [_,_] H wn M M M M M (by intro i q h;match i,h with|0,h=>exact h|1,h=>exact h|n+2,h=>simp at h) M M ?_;intro b12 a w CP H;obtain⟨EX,CV,J9,H⟩:=H.eX;refine s_call uT H wn M (uV _ _ H.ro _ _<|Dr J9) M ?_;rintro v13 _ a w ⟨rfl,rfl⟩-H;exact kH H<|Ra M fun a H=>aI ⟨M,K2 _ _<|lr H results47 M Bb⟩
theorem mo:∀{l:List Int},fD l=0->∀x∈l,x=0
 |[],_,_,h=>by cases h
 |e::r,h,x,hx=>by
  unfold fD at h
  by_cases he:e=0
  ·rw[au<|fun h'=>h' he]at h
   rcases iL.1 hx with rfl|hx
   ·exact he
   exact mo h x hx
  rw[ay he]at h;exact absurd h he
theorem Hl{E:Nat->Int}{n:Nat}(h:kW E n=0)(i:Nat)(hi:i<n):E i=0:=mo h _ (by simp;exact⟨i,hi,M⟩)
theorem VW{id:Nat->Int}{i:Nat}(h:yh id i=0):1<=id i∧id i<=1073741824∧(0<i->id (i-1)<id i):=by
 unfold yh at h
 by_cases h1:1<=id i∧id i<=1073741824
 ·rw[au<|fun h'=>h' h1]at h
  by_cases h2:0<i∧id i=id (i-1)
  ·rw[ay h2]at h;cases h
  rw[au h2]at h
  by_cases h3:0<i∧id i<id (i-1)
  ·rw[ay h3]at h;cases h
  exact⟨h1.1,h1.2,fun h0=>by omega⟩
 rw[ay h1]at h;cases h
theorem anQ{l:List Int}(h:∀i(h:i+1<l.length),l[i]<l[i+1]):EW l:=by
 have hlt:∀(j i:Nat)(hj:j<l.length)(hi:i<j),l[i]<l[j]:=by
  intro j
  induction j with
  |zero=>intro i _ hi;omega
  |succ j ih=>
   intro i hj hi;have h1:=h j hj
   by_cases e:i=j
   ·subst e;exact h1
   have:=ih i O O;omega
 intro k hk hm;obtain⟨i,hi,he⟩:=List.getElem_of_mem hm;rw[List.length_take]at hi;have:=hlt k i hk O;rw[List.getElem_take]at he
 omega
theorem aio {p:Prop} (h:p:=by
 have h4:=(VW (mo h3 _ fJ)).2.2 O;rw[Nat.add_sub_cancel,gF hi,gF (show i<l.length by omega)]at h4
 simpa using h4):p:=h
theorem aGt{l:List dJ}(h:Fj l=0):EW (l.map dJ.id):=by
 have h1:=mo h _<|fJ;have h2:=mo h _<|gH _ fJ
 have hl:l.length<=256:=by
  unfold dX at h1
  by_cases hd:256<(l.length:Int)
  ·rw[ay<|aG hd]at h1;cases h1
  omega
 refine anQ fun i hi=>?_;rw[bM]at hi;have h3:=Hl h2 (i+1) O
 unfold Ey at h3
 rw[gF hi]at h3;exact aio
theorem aEF{l:List fV}(h:PV l=0):EW (l.map fV.id):=by
 have h1:=mo h _<|fJ;have h2:=mo h _<|gH _ fJ
 have hl:l.length<=64:=by
  unfold dX at h1
  by_cases hd:64<(l.length:Int)
  ·rw[ay<|aG hd]at h1;cases h1
  omega
 refine anQ fun i hi=>?_;rw[bM]at hi;have h3:=Hl h2 (i+1) O
 unfold KJ at h3
 exact aio
theorem aH8{l:List dh}(h:Ck l=0):EW (l.map dh.id):=by
 unfold Ck at h
 by_cases h1:128<l.length
 ·rw[ay h1]at h;cases h
 rw[au h1]at h
 by_cases h2:wG (Dg l) 0 l.length≠0
 ·rw[ay h2]at h;exact absurd h h2
 intro k hk;rw[bM]at hk;have:=apr (nL.1 h2) k hk;rw[<-List.map_take,List.getElem_map];exact this
theorem ayX:aW 48:=aX func48 M
theorem DC:Ty prog 36 4 96 [.slice none 0 0,.slice none 0 0,.slice none 0 0,.slice none 0 0] true:=⟨V,V⟩
theorem ayV:aW 46:=aX func46 M
theorem ayW:aW 47:=aX func47 M
theorem MV:dG prog 38 1 1:=⟨V⟩
theorem alj(e:Int):fD [e]=e:=by
 by_cases h:e=0<;>simp[fD,h]
structure jq where
 flow:List ah
 fin:fI
 revs:List dJ
 qb:DY
structure lH(G:GH)(D:jh)(d:jq):Prop where
 fl:av G (.sl 11 (d.flow.map ah.dat)) (bN D.f)
 hd:kr G d.fin (bN D.p) (bN D.d) (bN D.y)
 ins:D.ins=d.fin.marks.ins
 mv:D.move=d.fin.marks.move
 rv:av G (.sl 3 (d.revs.map dJ.dat)) (bN D.r)
 st:Ca G d.qb (bN D.s1) (bN D.s2) (bN D.s3) (bN D.s4)
theorem Ca.mono{G G':GH}(hm:∀b o,G b=some o->G' b=some o){s:DY}{a b c d:aj}(h:Ca G s a b c d):Ca G' s a b c d:=⟨h.st.mono hm,h.li.mono hm,h.cm.mono hm,h.va.mono hm⟩
theorem lH.mono{G G':GH}(hm:∀b o,G b=some o->G' b=some o){D:jh}{d:jq}(h:lH G D d):lH G' D d:=⟨h.fl.mono hm,h.hd.mono hm,h.ins,h.mv,h.rv.mono hm,h.st.mono hm⟩
structure sM(d:jq):Prop where
 fl:aR d.flow<=1073741824
 hd:oF d.fin<=4294967296
 rn:d.revs.length<=4294967296
 rt:∀x∈d.revs,x.author.size<4611686018427387904
 sn:d.qb.styles.length<=4294967296
 st:Yk d.qb
abbrev jq.mX(d:jq):bG:=bS [] d.qb.styles d.qb.lists d.revs
def BG(m:zG):Bool:=decide ((m.ins≠0∨m.move≠0)∨0<(m.dQ.length:Int))
def jK(d:jq):Int:=fD [fD [PW d.qb,Fj d.revs],fD [iX d.mX 3 d.fin,dX (BG d.fin.marks) 21],(jH d.mX true false 0 d.flow ⟨0,[]⟩).1,dX (decide (16384<(jH d.mX true false 0 d.flow ⟨0,[]⟩).2.n)) 9]
theorem Y5 {p:Prop} (h:p:=by
 exact kP H (SR fun _ K1=>Rm M (ak K1 M (LR results11 M fun H=>H.rt (by rw [hE]))))):p:=h
theorem agD {p:Prop} (h:p:=by
 exact fin H iJ (by show _=_;first|exact iN (aG c1).symm|exact iN (by simp [c0]))):p:=h
theorem afD {p:Prop} (h:p:=by
 exact fin H iJ (by show _=_;first|exact iN (kZ (Or.inl c1)).symm|exact iN (by simp [BG,c1]))):p:=h
theorem afE {p:Prop} (h:p:=by
 exact kP H (SR fun _ K2=>Rm M (ak K2 M (LR results11 M fun H=>H.rt (by rw [hE]))))):p:=h
theorem afF {p:Prop} (h:p:=by
 exact kH H (ak K1 M (LR results11 M fun H=>H.rt (by rw [hE])))):p:=h
theorem ahM {p:Prop} (h:p:=by
 clear H;intro a w G mI H hv;have H:=H.aQ (hv 3 27 M M) M;have H:=H.aQ (hv 18 42 M M) M;clear hv;refine iT tQ jS [_,_] [_,_] H wn M M M M M (by intro i q h;match i,h with|0,h=>exact h|1,h=>exact h|n+2,h=>simp at h) M M ?_;clear H;intro b43 a w aBJ H;obtain⟨GU,uD,abu,H⟩:=H.eX;have QG:=fun b o h=>uD b o (mI b o h);replace hfl:=hfl.mono QG;replace hck:=hck.mono QG;refine s_call uT H wn M (uV _ _ H.ro _ _ (Dr abu)) M ?_;clear H;rintro v44 _ a w ⟨rfl,rfl⟩-H;refine kH H (Ra M ?_);clear H;intro a H;refine aI ⟨M,?_⟩;refine K2 _ _ ?_;clear K2;refine kP H (SR fun _ K2=>Rm M (Rc M (Kz K2 (Cd M ?_ ?_))))<;>clear H K2
 ·intro h46 a H
  try have p46:=dT h46
  have hE:jK d=fD [iX d.mX 3 d.fin,dX (BG d.fin.marks) 21]:=by rw[jK,fD,au (by simpa using e1),fD,ay p46]
  exact afE
 intro h46 a H
 try have p46:=dF h46
 have e2:=nL.1 p46;refine kP H (Kc K1 (SQ fun _ K2=>SR fun _ K3=>Rm M (aV wH eG 1 M M ?_)));clear H K1;intro a H;refine jM La [_,_,_] H wn M M M M ?_;clear H;intro a H;refine gM UC (Li:=[_,_]) (L:=iV b ms ml mr mb mu 0::(mb,gG [])::[]) H wn M (acH 4294967297 O _ _ _ d.qb.styles d.qb.lists d.revs b ms ml mr mb mu ⟨0,[]⟩ d.flow _ true false 0 hck (Hp.owns (Li:=[_,_]) H.hp) hfl O O O Z (by dsimp only;omega)) rfl ?_;clear H;rintro v52 _ _ a w ⟨rfl,s3,rfl,rfl,h3⟩-H;dsimp only[lca,bq]at H;refine kH H (ak K3 M (SR fun _ K1=>Rm M (Rc M (Kz K1 (Cd M ?_ ?_)))))<;>clear H K3 K1
 ·intro lT a H
  try have p54:=dT lT
  have hE:jK d=(jH d.mX true false 0 d.flow ⟨0,[]⟩).1:=by rw[jK,fD,au (by simpa using e1),fD,au (by simpa using e2),fD,ay p54]
  exact Y5
 intro lT a H
 try have p54:=dF lT
 have e3:=nL.1 p54;have hs3:=h3 e3;subst hs3;refine kP H (Kc K2 (SR fun _ K1=>Rm M (Rk M (aV MO aF 2 M M (Rc M ?_)))));clear H K2;intro a H;refine s_call qx H wn M (qF _ _ H.ro _ 9) M ?_;clear H;rintro v61 _ a w ⟨rfl,rfl⟩-H
 have hE:jK d=dX (decide (16384<(jH d.mX true false 0 d.flow ⟨0,[]⟩).2.n)) 9:=by rw[jK,fD,au (by simpa using e1),fD,au (by simpa using e2),fD,au (by simpa using e3)];exact alj _
 exact afF):p:=h
theorem Zw {p:Prop} (h:p:=by
 refine fu 0 24 2 26 M M fun _ a w G1 hG HT H fin=>?_;refine gM UA (Li:=[_,_]) (L:=iV b ms ml mr mb mu 0 :: (mb,gG []) :: []) H wn M (Vl _ _ _ d.qb.styles d.qb.lists d.revs b ms ml mr mb mu _ (hck.mono hG) (Hp.owns (Li:=[_,_]) H.hp) 3 d.fin _ _ _ (hhd.mono hG) zh) M ?_;clear H;rintro v27 _ _ a w ⟨rfl,rfl,rfl⟩ aAS H;dsimp only [lca,bq] at H;exact fin H aAS (rfl)):p:=h
theorem ZB {p:Prop} (h:p:=by
 refine iE 17 41 M M fun _ a w G1 hG HT H fin=>?_;refine s_call qx H wn M (qF _ _ H.ro _ 21) M ?_;clear H;rintro v42 XR a w ⟨rfl,-⟩ aA1 H;exact fin H aA1 (rfl)):p:=h
theorem agP {p:Prop} (h:p:=by
 refine fu 12 36 16 40 M M fun _ a w G1 hG HT H fin=>?_;refine kH H (Pt (aG c1) M ?_);clear H;intro a H;exact afD):p:=h
theorem agR {p:Prop} (h:p:=by
 refine fu 7 31 10 34 M M fun _ a w G1 hG HT H fin=>?_;refine kH H (Pf (aO c0) M ?_);clear H;intro a H;exact agD):p:=h
theorem Zt {p:Prop} (h:p:=by
 refine iE 1 25 M M fun _ a w G1 hG HT H fin=>?_;exact Zd):p:=h
theorem aiU(G:GH)(w0:World)(hG:Hold G w0)(D:jh)(d:jq)(hR:lH G D d)(hz:sM d) :
  Calls prog 11 #[D.val] w0 (bD w0 G fun u G'=>u=vi (jK d)):=by
 obtain⟨df,dp,dd,dy,dr,d1,d2,d3,d4,ins,mv⟩:=D;obtain⟨hfl,hhd,hin,hmv,xZ,hst⟩:=hR;dsimp only at hfl hhd hin hmv xZ hst;subst hin;subst hmv;obtain⟨zf,zh,zr,zt,zs,zg⟩:=hz;have hdl:=hhd.dQ.len;rw[bM]at hdl
 have hdn:d.fin.marks.dQ.length<=4294967296:=by
  have h1:=Sy d.fin;have h2:=vB<|d.fin.marks.dQ.map kS.dat;rw[bM]at h2;omega
 refine eN [(0,_)] func11 M ntmps11 M M hG fun a H=>dw<|fun _ K1=>eD (cs:=[_,_,_,_,_,_,_,_,_,_,_]) H wn M M M fun b1 a w hb1 H=>kH H<|ak K1 M<|SQ fun _ K2=>SQ fun _ K3=>fun a H=>dI hmx [[],[0],[0,1],[],[3],ra 0 5,ra 0 6,ra 0 7,ra 0 8] [6,7,8] V [_,.agg #[bN d1,bN d2,bN d3,bN d4],vi (PW d.qb),_,bN dr,vi<|Fj d.revs] H (aD (Z0 M<|Rf Qo M) ?_ ?_ (Z0 M<|Rf MW M)<|aD (Z1 3 11 M<|Ro Dz 0 M) ?_ (bX M) (bX M)<|bE (bX M) dz) ?_
 ·exact iE 0 8 M M fun _ a w G1 hG HT H fin=>aY DC (cs:=[_,_,_,_]) H wn M M (H.hp.dB 0 M M) M jD
 ·refine iE 1 9 M M fun _ a w G1 hG HT H fin=>s_call ayV H wn M (avF _ _ H.ro d.qb _ _ _ _ (hst.mono hG) zg) M ?_;rintro v10 sN a w rfl qI H;exact fin H qI<|rfl
 ·refine iE 4 12 M M fun _ a w G1 hG HT H fin=>s_call ayW H wn M (avE _ _ H.ro d.revs _ (xZ.mono hG) zr zt) M ?_;rintro v13 LJ a w rfl xU H;exact fin H xU<|rfl
 clear H;intro a w G jL H hv;have H:=H.aQ (hv 2 10 M M) M;have H:=H.aQ (hv 5 13 M M) M;clear hv;refine iT tQ jS [_,_] [_,_] H wn M M M M M (by intro i q h;match i,h with|0,h=>exact h|1,h=>exact h|n+2,h=>simp at h) M M ?_;intro b14 a w Nh H;obtain⟨DR,Bv,abp,H⟩:=H.eX;have hg1:=fun b o h=>Bv b o<|jL b o h;replace hfl:=hfl.mono hg1;replace hhd:=hhd.mono hg1;replace xZ:=xZ.mono hg1;replace hst:=hst.mono hg1;refine s_call uT H wn M (uV _ _ H.ro _ _<|Dr abp) M ?_;rintro v15 _ a w ⟨rfl,rfl⟩-H;refine kH H (Ra M fun a H=>aI ⟨M,K3 _ _<|kP H<|SR fun _ K1=>Rm M<|Rc M<|Kz K1<|Cd M ?_ ?_⟩)<;>clear H K1
 ·intro dL a H
  try have lD:=dT dL
  have hE:jK d=fD [PW d.qb,Fj d.revs]:=by rw[jK,fD,ay lD]
  exact Y5
 intro dL a H
 try have lD:=dF dL
 have e1:=nL.1 lD;have s1:=mo e1 _ fJ;have s2:=mo e1 _<|gH _ fJ;have t1:=mo s1 _ fJ;have t2:=mo s1 _<|gH _ fJ;refine fU<|K2 _ _<|dw<|fun _ K1=>aY jc (cs:=[_,_,_,_,_,_,_,_,_,_,_]) H wn M M (H.hp.dB 0 M M) M fun a H=>gM ayX (Li:=[_]) (L:=[]) H wn M (aFm _ _ (Hp.owns (Li:=[_]) H.hp) ⟨df,dp,dd,dy,dr,d1,d2,d3,d4,d.fin.marks.ins,d.fin.marks.move⟩ d.qb.styles d.qb.lists d.revs hst.st hst.li xZ (aH8 t1) (aEF t2) (aGt s2) zs zg.ln zr) M ?_;rintro v20 Jd _ a w ⟨b,ms,ml,mr,mb,mu,rfl,rfl,hck⟩ Ei H;dsimp only[lca,bq]at H;have H:=H.dR (Pl:=[_,_,_,_]) (dH:=[_,_,_,_]) [3,0,1,2] Z M;obtain⟨Gu,hmu,hu,H⟩:=H.eX;replace hck:=hck.with (us:=[]) hmu hu;replace hfl:=(hfl.mono Ei).mono hmu;replace hhd:=(hhd.mono Ei).mono hmu;refine kH H<|ak K1 M<|SR fun _ K2=>Rf MV M<|Rf xP M fun a H=>aY Oz (cs:=[_,_,_,_]) H wn M M (H.hp.dB 0 M M) M fun a H=>dK Oz H wn M fun b5 a w hb5 H=>bH Oz 0 (vs:=[_,_,_,_]) H wn M fun w H=>K2 _ _<|bU<|fun _ K1=>bU<|fun _ K2=>?_
 by_cases c0:d.fin.marks.ins≠0
 ·skip;have c1:d.fin.marks.ins≠0∨d.fin.marks.move≠0:=Or.inl c0;refine dI hmx [[],[],[1],[0,1,2],[],[4],[4,5],ra 0 7,ra 0 8,ra 0 9,ra 0 10,ra 0 11,ra 0 12,ra 0 13,ra 0 14,ra 0 15,ra 0 16,ra 0 17,ra 0 18,ra 0 19,ra 0 20,ra 0 21] [19,20,21] V [_,_,wN d.fin (bN dp) (bN dd) (bN dy),vi (iX d.mX 3 d.fin),_,vi d.fin.marks.ins,_,_,undef,undef,undef,.bool (decide<|d.fin.marks.ins≠0∨d.fin.marks.move≠0),_,undef,undef,undef,undef,.bool (BG d.fin.marks),vi<|dX (BG d.fin.marks) 21] H (aD (Z0 M<|Rm M) (Z0 M<|Rf MV M) ?_ ?_<|aD (Z0 M<|Rf Bl M) (Z1 4 28 M<|Ro aF 0 M) (Z1 5 29 M<|Rc M) (Z1 6 30 M<|Rm M)<|aD (aL 7 (aG c0) M M) (aL 7 (aG c0) M M) (aL 7 (aG c0) M M) ?_<|aD (Z1 11 35 M<|Rm M) (aL 12 (aG c1) M M) (aL 12 (aG c1) M M) (aL 12 (aG c1) M M)<|aD (aL 12 (aG c1) M M) ?_ ?_ (bX M)<|bE (bX M)<|bE (bX M) dz) ?_
  ·exact Zt
  ·exact Zw
  ·exact fu 7 31 10 34 M M fun _ a w G1 hG HT H fin=>kH H<|Pt (aG c0) M fun a H=>agD
  ·exact agP
  ·exact ZB
  exact ahM
 skip
 by_cases c1:d.fin.marks.ins≠0∨d.fin.marks.move≠0
 ·skip;refine dI hmx [[],[],[1],[0,1,2],[],[4],[4,5],ra 0 7,ra 0 8,ra 0 9,ra 0 10,ra 0 11,ra 0 12,ra 0 13,ra 0 14,ra 0 15,ra 0 16,ra 0 17,ra 0 18,ra 0 19,ra 0 20,ra 0 21] [19,20,21] V [_,_,wN d.fin (bN dp) (bN dd) (bN dy),vi (iX d.mX 3 d.fin),_,vi d.fin.marks.ins,_,_,_,vi d.fin.marks.move,_,.bool (decide<|d.fin.marks.ins≠0∨d.fin.marks.move≠0),_,undef,undef,undef,undef,.bool (BG d.fin.marks),vi<|dX (BG d.fin.marks) 21] H (aD (Z0 M<|Rm M) (Z0 M<|Rf MV M) ?_ ?_<|aD (Z0 M<|Rf Bl M) (Z1 4 28 M<|Ro aF 0 M) (Z1 5 29 M<|Rc M) (Z1 6 30 M<|Rm M)<|aD (Z1 7 31 M<|YF Hy (aO c0) M) (Z2 8 32 7 31 M<|YO aF 0 (aO c0) M) (Z2 9 33 7 31 M<|YC (aO c0) M) ?_<|aD (Z1 11 35 M<|Rm M) (aL 12 (aG c1) M M) (aL 12 (aG c1) M M) (aL 12 (aG c1) M M)<|aD (aL 12 (aG c1) M M) ?_ ?_ (bX M)<|bE (bX M)<|bE (bX M) dz) ?_
  ·exact Zt
  ·exact Zw
  ·exact agR
  ·exact agP
  ·exact ZB
  exact ahM
 skip;refine dI hmx [[],[],[1],[0,1,2],[],[4],[4,5],ra 0 7,ra 0 8,ra 0 9,ra 0 10,ra 0 11,ra 0 12,ra 0 13,ra 0 14,ra 0 15,ra 0 16,ra 0 17,ra 0 18,ra 0 19,ra 0 20,ra 0 21] [19,20,21] V [_,_,wN d.fin (bN dp) (bN dd) (bN dy),vi (iX d.mX 3 d.fin),_,vi d.fin.marks.ins,_,_,_,vi d.fin.marks.move,_,.bool (decide<|d.fin.marks.ins≠0∨d.fin.marks.move≠0),_,_,bN dd,vi d.fin.marks.dQ.length,_,.bool (BG d.fin.marks),vi<|dX (BG d.fin.marks) 21] H (aD (Z0 M<|Rm M) (Z0 M<|Rf MV M) ?_ ?_<|aD (Z0 M<|Rf Bl M) (Z1 4 28 M<|Ro aF 0 M) (Z1 5 29 M<|Rc M) (Z1 6 30 M<|Rm M)<|aD (Z1 7 31 M<|YF Hy (aO c0) M) (Z2 8 32 7 31 M<|YO aF 0 (aO c0) M) (Z2 9 33 7 31 M<|YC (aO c0) M) ?_<|aD (Z1 11 35 M<|Rm M) (Z1 12 36 M<|YF Bn (aO c1) M) (Z2 13 37 12 36 M<|YO BR 0 (aO c1) M) ?_<|aD (Z2 15 39 12 36 M<|YC (aO c1) M) ?_ ?_ (bX M)<|bE (bX M)<|bE (bX M) dz) ?_
 ·exact Zt
 ·exact Zw
 ·exact agR
 ·exact fu 14 38 12 36 M M fun _ a w G1 hG HT H fin=>kH H (YL uM (aO c1) M fun a H=>fin H iJ (by show _=_;first|rfl|exact cO (fun n:Nat=>vi n) hdl))
 ·exact fu 12 36 16 40 M M fun _ a w G1 hG HT H fin=>kH H<|Pf (aO c1) M fun a H=>afD
 ·exact ZB
 clear H;intro a w G mI H hv;have H:=H.aQ (hv 3 27 M M) M;have H:=H.aQ (hv 18 42 M M) M;clear hv;refine iT tQ jS [_,_] [_,_] H wn M M M M M (by intro i q h;match i,h with|0,h=>exact h|1,h=>exact h|n+2,h=>simp at h) M M ?_;intro b43 a w aBJ H;obtain⟨GU,uD,abu,H⟩:=H.eX;have QG:=fun b o h=>uD b o<|mI b o h;replace hfl:=hfl.mono QG;replace hck:=hck.mono QG;refine s_call uT H wn M (uV _ _ H.ro _ _<|Dr abu) M ?_;rintro v44 _ a w ⟨rfl,rfl⟩-H;refine kH H (Ra M fun a H=>aI ⟨M,K2 _ _<|kP H<|SR fun _ K2=>Rm M<|Rc M<|Kz K2<|Cd M ?_ ?_⟩)<;>clear H K2
 ·intro h46 a H
  try have p46:=dT h46
  have hE:jK d=fD [iX d.mX 3 d.fin,dX (BG d.fin.marks) 21]:=by rw[jK,fD,au (by simpa using e1),fD,ay p46]
  exact afE
 intro h46 a H
 try have p46:=dF h46
 have e2:=nL.1 p46;refine kP H (Kc K1 (SQ fun _ K2=>SR fun _ K3=>Rm M (aV wH eG 1 M M fun a H=>jM La [_,_,_] H wn M M M M fun a H=>gM UC (Li:=[_,_]) (L:=iV b ms ml mr mb mu 0::(mb,gG [])::[]) H wn M (acH 4294967297 O _ _ _ d.qb.styles d.qb.lists d.revs b ms ml mr mb mu ⟨0,[]⟩ d.flow _ true false 0 hck (Hp.owns (Li:=[_,_]) H.hp) hfl O O O Z (by dsimp only;omega)) rfl ?_)));rintro v52 _ _ a w ⟨rfl,s3,rfl,rfl,h3⟩-H;dsimp only[lca,bq]at H;refine kH H (ak K3 M<|SR fun _ K1=>Rm M<|Rc M<|Kz K1<|Cd M ?_ ?_)<;>clear H K3 K1
 ·intro lT a H
  try have p54:=dT lT
  have hE:jK d=(jH d.mX true false 0 d.flow ⟨0,[]⟩).1:=by rw[jK,fD,au (by simpa using e1),fD,au (by simpa using e2),fD,ay p54]
  exact Y5
 intro lT a H
 try have p54:=dF lT
 have e3:=nL.1 p54;have hs3:=h3 e3;subst hs3;refine kP H<|Kc K2<|SR fun _ K1=>Rm M<|Rk M<|aV MO aF 2 M M<|Rc M fun a H=>s_call qx H wn M (qF _ _ H.ro _ 9) M ?_;rintro v61 _ a w ⟨rfl,rfl⟩-H
 have hE:jK d=dX (decide (16384<(jH d.mX true false 0 d.flow ⟨0,[]⟩).2.n)) 9:=by rw[jK,fD,au (by simpa using e1),fD,au (by simpa using e2),fD,au (by simpa using e3)];exact alj _
 exact afF
def WC(body note:Bool)(t k i:Int):Prop:=(k=3->body=true)∧(k=6->note=false)∧(k=7->t<4)∧(k=8->1<=i∧i<=1073741824)
mutual
def jQ(C:bG)(body note:Bool)(t:Int):ah->Prop
 |.mk k c i tx h f r=>iP (.mk k c i tx h f r)=0∧WC body note t k i∧iX C k h=0∧(k=6->fF C false true t f)∧(k=7->(r.length≠0∧r.length<=256)∧mM C note (t+1) r)
def pQ(C:bG)(note:Bool)(t:Int):aN->Prop
 |.mk h cs=>Gf C h cs.length=0∧nE C note t cs
def pO(C:bG)(note:Bool)(t:Int):aP->Prop
 |.mk _ h f=>iX C 10 h=0∧fF C false note t f
def fF(C:bG)(body note:Bool)(t:Int):List ah->Prop
 |[]=>True
 |x::l=>jQ C body note t x∧fF C body note t l
def mM(C:bG)(note:Bool)(t:Int):List aN->Prop
 |[]=>True
 |x::l=>pQ C note t x∧mM C note t l
def nE(C:bG)(note:Bool)(t:Int):List aP->Prop
 |[]=>True
 |x::l=>pO C note t x∧nE C note t l
end
theorem nG{C:bG}{body note:Bool}{t:Int}:∀{l:List ah},fF C body note t l↔∀x∈l,jQ C body note t x
 |[]=>by simp[fF]
 |x::l=>by rw[fF,nG (l:=l)];simp
theorem ado{C:bG}{note:Bool}{t:Int}:∀{l:List aN},mM C note t l↔∀x∈l,pQ C note t x
 |[]=>by simp[mM]
 |x::l=>by rw[mM,ado (l:=l)];simp
theorem adl{C:bG}{note:Bool}{t:Int}:∀{l:List aP},nE C note t l↔∀x∈l,pO C note t x
 |[]=>by simp[nE]
 |x::l=>by rw[nE,adl (l:=l)];simp
mutual
/-- The units that a check counts. -/
def uI:ah->Nat
 |.mk k _ _ tx _ f r=>(if k=1 then dU tx else 1)+(if k=6 then gY f else if k=7 then qd r else 0)
def uR:aN->Nat
 |.mk _ cs=>qE cs
def uC:aP->Nat
 |.mk _ _ f=>gY f
def gY:List ah->Nat
 |[]=>0
 |x::l=>uI x+gY l
def qd:List aN->Nat
 |[]=>0
 |x::l=>uR x+qd l
def qE:List aP->Nat
 |[]=>0
 |x::l=>uC x+qE l
end
def kT(us bV ids:List Int):Prop:=(∀i∈ids,(1<=i∧i<=1073741824)∧i∉us∧i∉bV)∧ids.Nodup
theorem kT.nil(us bV:List Int):kT us bV []:=⟨fun _ h=>(by cases h),List.nodup_nil⟩
theorem kT.app{us bV a b:List Int}:kT us bV (a++b)↔kT us bV a∧kT us (bV++a) b:=by
 unfold kT
 rw[List.nodup_append]
 constructor
 ·rintro⟨h,h1,h2,h3⟩;exact⟨⟨fun i hi=>h i (List.mem_append_left _ hi),h1⟩,fun i hi=>⟨(h i<|List.mem_append_right _ hi).1,(h i<|List.mem_append_right _ hi).2.1,fun hm=>(iF.1 hm).elim (h i<|List.mem_append_right _ hi).2.2 fun ha=>h3 i ha i hi M⟩,h2⟩
 rintro⟨⟨h,h1⟩,h2,h3⟩;exact⟨fun i hi=>(iF.1 hi).elim (h i) fun hb=>⟨(h2 i hb).1,(h2 i hb).2.1,fun hm=>(h2 i hb).2.2<|List.mem_append_left _ hm⟩,h1,h3,fun i hi j hj e=>(h2 j hj).2.2<|List.mem_append_right _<|e ▸ hi⟩
theorem kT.sub{us bV a b:List Int}(h:kT us bV a)(hs:b.Sublist a):kT us bV b:=⟨fun i hi=>h.1 i (hs.subset hi),hs.nodup h.2⟩
theorem Mf{r:CR}{f:CS->CR}{s':CS}:jf r f=(0,s')↔∃m,r=(0,m)∧f m=(0,s'):=by
 constructor
 ·intro h;obtain⟨h1,h2⟩:=jY h;exact⟨r.2,Prod.ext h1 M,h2⟩
 rintro⟨m,rfl,h⟩;rw[Mg M];exact h
theorem zY{e:Int}{s m:CS}:((e,s):CR)=(0,m)↔e=0∧m=s:=by rw[jd,@eq_comm _ s m]
theorem acB{C:bG}{s m:CS}{x:Int}:oO C s x=(0,m)↔kT C.us s.bV [x]∧m=⟨s.n,s.bV++[x]⟩:=by
 unfold oO
 rw[zY]
 have he:uG C.us s.bV x=0↔kT C.us s.bV [x]:=by
  unfold uG kT
  by_cases h0:¬(1<=x∧x<=1073741824)∨x∈C.us
  ·rw[ay h0];refine⟨fun h=>(by cases h),fun h=>?_⟩;have:=h.1 x<|List.mem_singleton_self _;exact absurd h0 (by rintro(h1|h1);exact h1 this.1;exact this.2.1 h1)
  rw[au h0]
  by_cases h1:x∈s.bV
  ·rw[ay h1];exact⟨fun h=>(by cases h),fun h=>absurd h1 (h.1 x<|List.mem_singleton_self _).2.2⟩
  rw[au h1];refine⟨fun _=>⟨fun i hi=>?_,by simp⟩,fun _=>rfl⟩;rw[oH.1 hi];exact⟨nL.1 fun h=>h0 (.inl h),fun h=>h0 (.inr h),h1⟩
 rw[he]
 constructor
 ·rintro⟨h,rfl⟩;exact⟨h,by rw[oN,ay<|he.2 h]⟩
 rintro⟨h,rfl⟩;exact⟨h,by rw[oN,ay<|he.2 h]⟩
theorem BX{b:Bool}{e:Int}(he:e≠0):dX b e=0↔b=false:=by cases b<;>simp[dX,he]
theorem afG {p:Prop} (h:p:=by
 exact ⟨s,⟨h1 trivial,M⟩,by simpa using h2,by simpa using h4⟩):p:=h
theorem aF5{C:bG}{body note:Bool}{t k i:Int}{s m:CS}:qC C body note t k i s=(0,m)↔WC body note t k i∧kT C.us s.bV (if k=6∨k=7 then[i]else[])∧m=⟨s.n,s.bV++(if k=6∨k=7 then[i]else[])⟩:=by
 unfold qC WC
 by_cases h3:k=3
 ·subst h3;rw[ay M,zY,BX Z];cases body<;>simp[kT.nil]
 rw[au h3]
 by_cases h6:k=6
 ·subst h6;rw[ay M,Mf]
  simp only[zY,BX (show(19:Int)≠0 by decide),acB]
  constructor
  ·rintro⟨_,⟨h1,rfl⟩,h2,h4⟩;exact⟨⟨fun h=>absurd h Z,fun _=>h1,fun h=>absurd h Z,fun h=>absurd h Z⟩,by simpa using h2,by simpa using h4⟩
  rintro⟨⟨-,h1,-,-⟩,h2,h4⟩;exact afG
 rw[au h6]
 by_cases h7:k=7
 ·subst h7;rw[ay M,Mf]
  simp only[zY,BX (show(17:Int)≠0 by decide),acB,Ci,Int.not_le]
  constructor
  ·rintro⟨_,⟨h1,rfl⟩,h2,h4⟩;exact⟨⟨fun h=>absurd h Z,fun h=>absurd h Z,fun _=>h1,fun h=>absurd h Z⟩,by simpa using h2,by simpa using h4⟩
  rintro⟨⟨-,-,h1,-⟩,h2,h4⟩;exact afG
 rw[au h7,au (show¬(k=6∨k=7) by omega),iR]
 by_cases h8:k=8
 ·rw[ay h8,zY,BX Z]
  simp[h3,h6,h7,h8,kT.nil]
 rw[au h8,zY];simp[h3,h6,h7,h8,kT.nil]
theorem aGz{n:Nat}{f:CS->CR}{s s':CS}:nH n f s=(0,s')↔(n≠0∧n<=256)∧f s=(0,s'):=by
 unfold nH
 split
 ·rename_i h;simp[h]
 rename_i h
 split
 ·rename_i h2;simp[show¬n<=256 by omega]
 rename_i h2;simp[h,show n<=256 by omega]
theorem aui {p:Prop} (h:p:=by
 exact ⟨⟨q1,q3⟩,⟨q2,q4⟩,by rw [iG];congr 1;push_cast;omega⟩):p:=h
theorem auj {p:Prop} (h:p:=by
 exact ⟨_,⟨q1,q2,M⟩,q3,q4,by rw [iG];congr 1;push_cast;omega⟩):p:=h
theorem ZE {p:Prop} (h:p:=by
 simp only[Mf,h1,h2,kT.app]
 constructor
 ·rintro⟨_,⟨q1,q2,rfl⟩,q3,q4,rfl⟩;exact aui
 rintro ⟨⟨q1,q3⟩,⟨q2,q4⟩,rfl⟩;exact auj):p:=h
mutual
theorem avK(C:bG)(body note:Bool)(t:Int):∀(x:ah)(s s':CS),fM C body note t x s=(0,s')↔jQ C body note t x∧kT C.us s.bV (qL x)∧s'=⟨s.n+(uI x:Nat),s.bV++qL x⟩
 |.mk k c i tx h f r,s,s'=>by
  have hf:=PX C false true t f;have hr:=aiX C note (t+1) r;rw[fM,jQ,qL,uI]
  simp only[Mf,zY,aF5]
  by_cases h6:k=6
  ·subst h6
   simp only[if_true,hf,kT.app,true_or,au (show¬(6:Int)=7 by decide),au (show¬(6:Int)=1 by decide),iR]
   constructor
   ·rintro⟨_,⟨h1,rfl⟩,_,⟨h2,h3,rfl⟩,_,⟨h4,rfl⟩,h5,h7,rfl⟩;exact⟨⟨h1,h2,h4,fun _=>h5,fun h=>absurd h Z⟩,⟨h3,h7⟩,by rw[iG];congr 1;push_cast;omega⟩
   rintro⟨⟨h1,h2,h4,h5,-⟩,⟨h3,h7⟩,rfl⟩;exact⟨s,⟨h1,M⟩,_,⟨h2,h3,M⟩,_,⟨h4,M⟩,h5 trivial,h7,by rw[iG];congr 1;push_cast;omega⟩
  by_cases h7:k=7
  ·subst h7
   simp only[if_true,aGz,hr,kT.app,or_true,au (show¬(7:Int)=6 by decide),au (show¬(7:Int)=1 by decide),fQ]
   constructor
   ·rintro⟨_,⟨h1,rfl⟩,_,⟨h2,h3,rfl⟩,_,⟨h4,rfl⟩,h0,h5,h8,rfl⟩;exact⟨⟨h1,h2,h4,fun h=>absurd h Z,fun _=>⟨h0,h5⟩⟩,⟨h3,h8⟩,by rw[iG];congr 1;push_cast;omega⟩
   rintro⟨⟨h1,h2,h4,-,h5⟩,⟨h3,h8⟩,rfl⟩;exact⟨s,⟨h1,M⟩,_,⟨h2,h3,M⟩,_,⟨h4,M⟩,(h5 trivial).1,(h5 trivial).2,h8,by rw[iG];congr 1;push_cast;omega⟩
  simp only[au h6,au h7,au (show¬(k=6∨k=7) by omega),iR,zY]
  constructor
  ·rintro⟨_,⟨h1,rfl⟩,_,⟨h2,h3,rfl⟩,_,⟨h4,rfl⟩,-,rfl⟩;exact⟨⟨h1,h2,h4,fun h=>absurd h h6,fun h=>absurd h h7⟩,kT.nil _ _,by simp⟩
  rintro⟨⟨h1,h2,h4,-,-⟩,h3,rfl⟩;exact⟨s,⟨h1,M⟩,_,⟨h2,kT.nil _ _,M⟩,_,⟨h4,M⟩,aC,by simp⟩
theorem avL(C:bG)(note:Bool)(t:Int):∀(x:aN)(s s':CS),Az C note t x s=(0,s')↔pQ C note t x∧kT C.us s.bV (wQ x)∧s'=⟨s.n+(uR x:Nat),s.bV++wQ x⟩
 |.mk h cs,s,s'=>by
  have hc:=aiW C note t cs;rw[Az,pQ,wQ,uR]
  simp only[Mf,zY,hc]
  constructor
  ·rintro⟨_,⟨h1,rfl⟩,h2,h3⟩;exact⟨⟨h1,h2⟩,h3⟩
  rintro⟨⟨h1,h2⟩,h3⟩;exact⟨s,⟨h1,M⟩,h2,h3⟩
theorem avJ(C:bG)(note:Bool)(t:Int):∀(x:aP)(s s':CS),cellC C note t x s=(0,s')↔pO C note t x∧kT C.us s.bV (wP x)∧s'=⟨s.n+(uC x:Nat),s.bV++wP x⟩
 |.mk i h f,s,s'=>by
  have hf:=PX C false note t f;rw[cellC,pO,wP,uC,show i::gQ f=[i]++gQ f from rfl]
  simp only[Mf,zY,hf,acB,kT.app]
  constructor
  ·rintro⟨_,⟨h1,rfl⟩,_,⟨h2,rfl⟩,h3,h4,rfl⟩;exact⟨⟨h2,h3⟩,⟨h1,h4⟩,by rw[iG]⟩
  rintro⟨⟨h2,h3⟩,⟨h1,h4⟩,rfl⟩;exact⟨_,⟨h1,M⟩,_,⟨h2,M⟩,h3,h4,by rw[iG]⟩
theorem PX(C:bG)(body note:Bool)(t:Int):∀(l:List ah)(s s':CS),jH C body note t l s=(0,s')↔fF C body note t l∧kT C.us s.bV (gQ l)∧s'=⟨s.n+(gY l:Nat),s.bV++gQ l⟩
 |[],s,s'=>by rw[jH,fF,gQ,gY,zY];simp[kT.nil]
 |x::r,s,s'=>by
  have h1:=avK C body note t x;have h2:=PX C body note t r;rw[jH,fF,gQ,gY]
  exact ZE
theorem aiX(C:bG)(note:Bool)(t:Int):∀(l:List aN)(s s':CS),jm C note t l s=(0,s')↔mM C note t l∧kT C.us s.bV (oh l)∧s'=⟨s.n+(qd l:Nat),s.bV++oh l⟩
 |[],s,s'=>by rw[jm,mM,oh,qd,zY];simp[kT.nil]
 |x::r,s,s'=>by
  have h1:=avL C note t x;have h2:=aiX C note t r;rw[jm,mM,oh,qd]
  exact ZE
theorem aiW(C:bG)(note:Bool)(t:Int):∀(l:List aP)(s s':CS),qH C note t l s=(0,s')↔nE C note t l∧kT C.us s.bV (oM l)∧s'=⟨s.n+(qE l:Nat),s.bV++oM l⟩
 |[],s,s'=>by rw[qH,nE,oM,qE,zY];simp[kT.nil]
 |x::r,s,s'=>by
  have h1:=avJ C note t x;have h2:=aiW C note t r;rw[qH,nE,oM,qE]
  exact ZE
end
theorem aAf{a b c d:Int}:fD [a,b,c,d]=0↔a=0∧b=0∧c=0∧d=0:=by
 constructor
 ·intro h;have z:=mo h;exact⟨z _ (by simp),z _ (by simp),z _ (by simp),z _ (by simp)⟩
 rintro⟨rfl,rfl,rfl,rfl⟩;rfl
theorem aaR{a b:Int}:fD [a,b]=0↔a=0∧b=0:=by
 constructor
 ·intro h;have z:=mo h;exact⟨z _ (by simp),z _ (by simp)⟩
 rintro⟨rfl,rfl⟩;rfl
theorem Fp(d:jq):jK d=0↔(PW d.qb=0∧Fj d.revs=0)∧(iX d.mX 3 d.fin=0∧BG d.fin.marks=false)∧fF d.mX true false 0 d.flow∧kT [] [] (gQ d.flow)∧gY d.flow<=16384:=by
 unfold jK
 rw[aAf,aaR,aaR,BX Z,BX Z,Ci]
 constructor
 ·rintro⟨h1,h2,h3,h4⟩;obtain⟨q1,q2,q3⟩:=(PX d.mX true false 0 d.flow ⟨0,[]⟩ _).1<|Um h3;rw[q3]at h4;dsimp only at h4;exact⟨h1,h2,q1,q2,O⟩
 rintro⟨h1,h2,q1,q2,q3⟩;have h:=(PX d.mX true false 0 d.flow ⟨0,[]⟩ _).2 ⟨q1,q2,M⟩;rw[h];exact⟨h1,h2,M,by dsimp only;omega⟩
section
section
variable{N:Nat}{D:List Deferred}{w0:World}{F:Nat->Prop}{G0 G:GH}{L:OL}{T:List (Nat×aj)}
variable{r:Option Nat}{P:Program}{ops:Array Oper}{Q:Exit->Act->World->Prop}{rest:List Oper}{a:Act}{w:World}
variable{d:Nat}{ty:TypeId}{pos:String}{aT:Array Edge}{g:Option (Nat×Bool)}
theorem aqm{t yt:TypeId}{x y:Operand}{p q:ByteArray}(H:St N D w0 F G0 G L T a w)(hw:Region.wanted ⟨some d,.binOp .add t x y yt,ty,pos,aT,g⟩ (yielded ops a.tmps)=true)(hx:ev T x=some (.string p))(hy:ev T y=some (.string q))(hs:p.size+q.size<=4611686018427387904)(hd:Nat.blt d N=true)
  (k:∀a',St N D w0 F G0 G L ((d,.string<|p++q)::T) a' w->WL r P ops Q rest a' w):WL r P ops Q (⟨some d,.binOp .add t x y yt,ty,pos,aT,g⟩::rest) a w:=by
 refine fH (v:=.string<|p++q) (w':=w) hw M ?_<|k _<|H.put hd _ H.hp
 have h:¬((p.size+q.size:Nat):Int)>IntKind.i64.max:=by
  rw[show IntKind.i64.max=9223372036854775807 by decide];omega
 simp only[execOp,H.ev hx,H.ev hy,dP,eqGuard,binOp,Op.stringOp,au h]
 rfl
end
theorem bT.set1{e sz n cap b o:Nat}{xs:List aj}{Lo:OL}(h:bT e sz (.slice (some ⟨b,o,none⟩) n cap) n xs Lo) :
  ∃cur:List aj,o=0∧Lo=[(b,.cells cur.toArray e (0,0))]∧n*sz<=cur.length∧∀j v,bT e sz (.slice (some ⟨b,0,none⟩) n cap) n (xs.set j v) [(b,.cells (cur.set j v).toArray e (0,0))]:=by
 rcases h.2 with⟨h1,_⟩|⟨b',cap',cur',h1,h2,h3,h4,h5,h6⟩
 ·cases h1
 ·cases h1
  refine⟨cur'.toList,M,h2,?_,fun j v=>⟨by rw[List.length_set];exact h.1,.inr ⟨b,cap,_,M,M,h3,h4,by simpa using h5,?_⟩⟩⟩
  ·rw[sQ,h5];exact Nat.mul_le_mul_right _ h3
  ·rw[List.toList_toArray,<-h6,List.take_set]
theorem bR.aHQ{G:GH}{sz:Nat}{rows:List (List Dat)}{q:List Dat}{xs:List aj}(h:bR G sz (rows++[q]) xs):∃x0 cs,xs=x0++cs∧bR G sz rows x0∧bg G q cs∧cs.length=sz∧x0.length=rows.length*sz:=by
 obtain⟨css,rfl,h2,h3⟩:=h
 rw[gT,List.length_singleton]at h2
 have hne:css≠[]:=fun e=>by rw[e]at h2;simp at h2
 have e:css=css.dropLast++[css.getLast hne]:=(List.dropLast_concat_getLast hne).symm
 have hdl:css.dropLast.length=rows.length:=by rw[List.length_dropLast];omega
 generalize css.dropLast=c0 at e hdl
 generalize css.getLast hne=cl at e
 subst e
 have h4:∀(j:Nat)(r:List Dat)(cs:List aj),rows[j]?=some r->c0[j]?=some cs->bg G r cs∧cs.length=sz:=fun j r cs hr hc=>h3 j r cs (by rw[xH (jJ.1 hr).1];exact hr) (by rw[xH (jJ.1 hc).1];exact hc)
 have h5:=h3 rows.length q cl (by rw[uQ (eP _),Nat.sub_self];rfl) (by rw[uQ O,hdl,Nat.sub_self];rfl)
 refine⟨c0.flatten,cl,by simp,⟨c0,M,hdl,h4⟩,h5.1,h5.2,?_⟩
 have h6:∀(c:List (List aj))(rs:List (List Dat)),c.length=rs.length->(∀(j:Nat)(r:List Dat)(cs:List aj),rs[j]?=some r->c[j]?=some cs->bg G r cs∧cs.length=sz)->c.flatten.length=rs.length*sz:=by
  intro c
  induction c with
  |nil=>intro rs h _;cases rs with
   |nil=>simp
   |cons r rs=>simp at h
  |cons x c ih=>
   intro rs h hh
   cases rs with
   |nil=>simp at h
   |cons r rs=>
    have e1:=(hh 0 r x M M).2
    have e2:=ih rs (by simpa using h) fun j r' cs hr hc=>hh (j+1) r' cs (by simpa using hr) (by simpa using hc)
    rw[List.flatten_cons,gT,e1,e2,lK,Nat.succ_mul,Nat.add_comm]
 exact h6 c0 rows hdl h4
theorem anO(A B:OL)(x:Nat×Obj):(A++(B++[x]))[A.length+B.length]?=some x:=by
 rw[uQ O,Ch,uQ (eP _),Nat.sub_self];rfl
theorem aqD (A B:OL) (x y:Nat × Obj):(A++(B++[x])).set (A.length+B.length) y=A++(B++[y]):=by
 rw [List.set_append_right _ _ O,Ch,List.set_append_right _ _ (eP _),Nat.sub_self];rfl
end
def lu(z y:ah):ah:=.mk z.kind z.code z.id (z.text++y.text) z.head z.flow z.rows
def uh(y:ah):Prop:=(y.kind=7∧y.rows.length=0)∨(y.kind=1∧y.text.size=0)
def vN(z y:ah):Prop:=y.kind=1∧z.kind=1∧z.head=y.head
instance(y:ah):Decidable (uh y):=inferInstanceAs (Decidable (_∨_))
instance(z y:ah):Decidable (vN z y):=inferInstanceAs (Decidable (_∧_∧_))
def addN(out:List ah)(y:ah):List ah :=
 if uh y then out else match out.getLast? with
  |none=>out++[y]
  |some z=>if vN z y then out.dropLast++[lu z y]else out++[y]
theorem Hf{out:List ah}{y:ah}(h:uh y):addN out y=out:=ay h
theorem EZ{out:List ah}{y:ah}(h:¬uh y)(hj:∀o z,out=o++[z]->¬vN z y):addN out y=out++[y]:=by
 unfold addN
 rw[au h]
 split
 ·rfl
 rename_i z hz
 obtain⟨o,rfl⟩:=List.getLast?_eq_some_iff.1 hz;rw[au<|hj o z M]
theorem Hg{o:List ah}{z y:ah}(h:¬uh y)(hj:vN z y):addN (o++[z]) y=o++[lu z y]:=by
 unfold addN
 rw[au h,List.getLast?_concat];dsimp only;rw[ay hj,List.dropLast_concat]
theorem Yq(out:List ah)(y:ah):addN out y=out∨addN out y=out++[y]∨∃o z,out=o++[z]∧z.kind=1∧y.kind=1∧addN out y=o++[lu z y]:=by
 by_cases h:uh y
 ·exact .inl<|Hf h
 by_cases hj:∃o z,out=o++[z]∧vN z y
 ·obtain⟨o,z,rfl,hj⟩:=hj;exact .inr (.inr ⟨o,z,M,hj.2.1,hj.1,Hg h hj⟩)
 exact .inr (.inl<|EZ h fun o z e hz=>hj ⟨o,z,e,hz⟩)
mutual
/-- What becomes of an item in a normal form, of rows, of cells. -/
def nI:ah->ah
 |.mk k c i t h f r=>.mk k c i t h ((nS f).foldl addN []) (sj r)
def nS:List ah->List ah
 |[]=>[]
 |x::l=>nI x::nS l
def nR:aN->aN
 |.mk h c=>.mk h (rZ c)
def sj:List aN->List aN
 |[]=>[]
 |x::l=>nR x::sj l
def nC:aP->aP
 |.mk i h f=>.mk i h ((nS f).foldl addN [])
def rZ:List aP->List aP
 |[]=>[]
 |x::l=>nC x::rZ l
end
theorem F6:∀l:List ah,nS l=l.map nI
 |[]=>by simp[nS]
 |x::l=>by simp[nS,F6 l]
theorem Wj:∀l:List aN,sj l=l.map nR
 |[]=>by simp[sj]
 |x::l=>by simp[sj,Wj l]
theorem acZ:∀l:List aP,rZ l=l.map nC
 |[]=>by simp[rZ]
 |x::l=>by simp[rZ,acZ l]
def sF(l:List ah)(k:Nat):List ah:=((l.take k).map nI).foldl addN []
def fq(l:List ah):List ah:=sF l l.length
theorem IC(x:ah):nI x=.mk x.kind x.code x.id x.text x.head (fq x.flow) (x.rows.map nR):=by
 cases x;rw[nI,F6,Wj];simp[fq,sF,ah.kind,ah.code,ah.id,ah.text,ah.head,ah.flow,ah.rows]
theorem aoL(x:aN):nR x=.mk x.head (x.cells.map nC):=by cases x;rw[nR,acZ];rfl
theorem aE3(x:aP):nC x=.mk x.id x.head (fq x.flow):=by cases x;rw[nC,F6];simp[fq,sF,aP.id,aP.head,aP.flow]
theorem Ww{l:List ah}{k:Nat}(h:k<l.length):sF l (k+1)=addN (sF l k) (nI l[k]):=by
 unfold sF;rw[ji h,iy,List.foldl_append];rfl
theorem aIn(out:List ah)(y:ah):kN (addN out y)<=kN out+(y.text.size+1):=by
 rcases Yq out y with e|e|⟨o,z,rfl,-,-,e⟩<;>rw[e]
 ·omega
 ·rw[Gy];simp[kN]
 rw[Gy,Gy];have:(lu z y).text.size=z.text.size+y.text.size:=ByteArray.size_append
 simp only[kN,this];omega
theorem Wx{l:List ah}:∀{k:Nat},k<=l.length->kN (sF l k)<=kN (l.take k)
 |0,_=>by simp[sF,kN]
 |k+1,h=>by
  have ih:=Wx (l:=l) (k:=k) O;have h1:=aIn (sF l k)<|nI l[k]
  have h2:(nI l[k]).text=l[k].text:=by rw[IC];rfl
  rw[h2]at h1;rw[Ww O,ji O,Gy]
  simp only[kN];omega
theorem aFM{l:List ah}{k:Nat}(h:k<=l.length):(sF l k).length<=kN l:=by
 have h1:=NP<|sF l k;have h2:=Wx h;have h3:=Oy l k
 omega
mutual
/-- Tables whose rows all have cells. -/
def wT:ah->Prop
 |.mk _ _ _ _ _ f r=>kM f∧zo r
def kM:List ah->Prop
 |[]=>True
 |x::l=>wT x∧kM l
def Ev:aN->Prop
 |.mk _ c=>c≠[]∧Df c
def zo:List aN->Prop
 |[]=>True
 |x::l=>Ev x∧zo l
def Et:aP->Prop
 |.mk _ _ f=>kM f
def Df:List aP->Prop
 |[]=>True
 |x::l=>Et x∧Df l
end
theorem Eu:∀{l:List ah},kM l->∀x∈l,wT x
 |[],_,_,h=>by cases h
 |y::l,h,x,hx=>by
  rw[kM]at h
  rcases iL.1 hx with rfl|hx
  ·exact h.1
  exact Eu h.2 x hx
theorem KQ:∀{l:List ah},(∀x∈l,wT x)->kM l
 |[],_=>by rw[kM];trivial
 |y::l,h=>by rw[kM];exact⟨h y fJ,KQ fun x hx=>h x<|gH _ hx⟩
theorem ade:∀{l:List aN},zo l->∀x∈l,Ev x
 |[],_,_,h=>by cases h
 |y::l,h,x,hx=>by
  rw[zo]at h
  rcases iL.1 hx with rfl|hx
  ·exact h.1
  exact ade h.2 x hx
theorem aoR:∀{l:List aP},Df l->∀x∈l,Et x
 |[],_,_,h=>by cases h
 |y::l,h,x,hx=>by
  rw[Df]at h
  rcases iL.1 hx with rfl|hx
  ·exact h.1
  exact aoR h.2 x hx
theorem Wo(x:ah):wT x=(kM x.flow∧zo x.rows):=by cases x;rw[wT];rfl
theorem aoT(x:aN):Ev x=(x.cells≠[]∧Df x.cells):=by cases x;rw[Ev];rfl
theorem aFb(x:aP):Et x=kM x.flow:=by cases x;rw[Et];rfl
theorem aaq:aW 174:=aX func174 M
mutual
/-- The heads of items, rows and cells, in document order. -/
def J4:ah->List fI
 |.mk k _ _ _ h f r=>h::((if k=6 then pJ f else[])++(if k=7 then Br r else[]))
def pJ:List ah->List fI
 |[]=>[]
 |x::r=>J4 x++pJ r
def J7:aN->List fI
 |.mk h c=>h::CJ c
def Br:List aN->List fI
 |[]=>[]
 |x::r=>J7 x++Br r
def JZ:aP->List fI
 |.mk _ h f=>h::pJ f
def CJ:List aP->List fI
 |[]=>[]
 |x::r=>JZ x++CJ r
end
theorem aBm(x:ah):J4 x=x.head::((if x.kind=6 then pJ x.flow else[])++(if x.kind=7 then Br x.rows else[])):=by cases x;rw[J4];rfl
theorem aBy(x:aN):J7 x=x.head::CJ x.cells:=by cases x;rw[J7];rfl
theorem aAO(x:aP):JZ x=x.head::pJ x.flow:=by cases x;rw[JZ];rfl
def Ke(h:fI):AP:=fun args G=>∃p d y:Option Addr×Nat×Nat,args=[.agg #[bN p,vi h.marks.ins,vi h.marks.move,bN d,bN y]]∧kr G h (bN p) (bN d) (bN y)
theorem abJ{G:GH}{h:fI}{pA dA yA:Option Addr}{pn pc dn dc yn yc:Nat}(hr:kr G h (.slice pA pn pc) (.slice dA dn dc) (.slice yA yn yc)):Ke h [.agg #[.slice pA pn pc,vi h.marks.ins,vi h.marks.move,.slice dA dn dc,.slice yA yn yc]] G:=⟨(pA,pn,pc),(dA,dn,dc),(yA,yn,yc),M,hr⟩
def XY(n:Nat):Prop:=∀(fv:aj)(Gi:GH)(xs:List AP)(J:Nat->GH->OL->Prop)(G:GH)(L:OL)(w0:World)(j:Nat)(l:List ah)(v:aj),
 (∀b o,Gi b=some o->G b=some o)->SF prog fv Gi xs J->GX J->J j G L->fZ G L w0->av G (.sl 11 (l.map ah.dat)) v->aR l<n->(∀i a,(pJ l)[i]?=some a->xs[j+i]?=some (Ke a))->
 Calls prog 174 #[v,fv] w0 (fG w0 G L fun _ G' L'=>J (j+(pJ l).length) G' L')
set_option maxHeartbeats 4000000 in
theorem aB8{n:Nat}(ih:XY n)(hn:n<=4294967296):XY (n+1):=by
 intro fv Gi xs J G L w0 j0 l v hGi hcb wK hJ0 hO hv hz hx0;obtain⟨A,c,rfl,hc1,hc2,hg⟩:=hv.slice;rw[bM]at *;have hll:=wo l;refine iY (N:=59) (T:=[(0,_),(1,_)]) func174 M ntmps174 M M hO ?_;intro a H;refine kP H<|SR fun _ K1=>Rm M<|Rl dM M<|Rm M<|Kz K1<|SB ?_;clear H K1;intro a H;skip;refine dY (ι:=Nat×Nat×OL×GH) (Tc:=[(1,_),(10,_),(11,_)]) (Lc:=[]) (fun gh=>[(12,vi gh.1)]) (fun gh=>[]++gh.2.2.1) (fun gh=>gh.2.2.2) (fun gh=>gh.1<=l.length∧(∀b o,G b=some o->gh.2.2.2 b=some o)∧Now xs Ke J (j0+(pJ l).length) gh.2.1 (pJ<|l.drop gh.1) gh.2.2.2 gh.2.2.1) (fun gh=>l.length-gh.1) ((0,j0,L,G)) (by exact H.sub ⟨M,M,M,M,aC⟩) ?_ ?_
 ·exact⟨O,fun _ _ h=>h,⟨hJ0,hx0,M⟩⟩
 clear H;rintro⟨k,j,Lt,g1⟩ a w hI H;dsimp only at hI H;obtain⟨hk,hgm,gy⟩:=hI;dsimp only[lca,bq]at H;refine kP H (SR fun _ K1=>Rc M<|Kz K1<|SQ fun _ K2=>Cd M ?_ ?_)<;>clear H K1
 ·intro iA a H
  try have tK:=dT iA
  have hk2:k<l.length:=by omega
  obtain⟨b,o,pA,pn,pc,dA,dn,dc,yA,yn,yc,fA,fn,fc,rA,rn,rc,rfl,hrow,hhd,hfl,hrw⟩:=vI hk2 hg;replace hrow:=fun j u hj=>aH hgm<|hrow j u hj;replace hhd:=hhd.mono hgm;replace hfl:=hfl.mono hgm;replace hrw:=hrw.mono hgm;have hrn:=hrw.len;rw[bM]at hrn;subst hrn;have hsz1:=GK hk2;rw[mg hk2]at gy
  simp only[pJ,aBm,iG,jl]at gy
  obtain⟨x,hx⟩:∃x,x=l[k]:=⟨_,M⟩;rw[<-hx]at gy hrow hhd hfl hrw hsz1;have hrl:=ER x.rows;refine kP H<|Kc K2<|SQ fun _ K1=>SB<|SR fun _ K3=>Ri dM bL M M ?_;clear H K2;intro a H;refine aY bL (cs:=[_,_,_,_,_,_,_,_,_,_,_]) H wn M M (fun j v hj=>H.hp.aJ<|hrow j v hj) M ?_;clear H;intro a H;refine dK bL H wn M ?_;clear H;intro b5 a w hb5 H;refine bH bL 0 (vs:=[_,_,_,_,_,_,_,_,_,_,_]) H wn M ?_;clear H;intro w H;refine K3 _ _ ?_;clear K3;refine kP H<|SR fun _ K2=>Rm M<|Rf vG M ?_;clear H;intro a H;refine aY oC (cs:=[_,_,_,_,_]) H wn M M (H.hp.dB 0 M M) M ?_;clear H;intro a H;refine BM (Li:=[_]) (L:=Lt) H wn M M (hcb _ _ _ _ _ ⟨_,gy.head,abJ hhd⟩ (fun b o h=>hgm b o<|hGi b o h) gy.now<|Hp.owns (Li:=[_]) H.hp) M ?_;clear H;intro v19 LK X9 a w aBn mJ H;have CX:=gy.step aBn;refine K2 _ _ ?_;clear K2;refine kP H (SR fun _ K2=>aV iW aF 0 M M<|Kz K2<|SB<|SR fun _ K3=>Rc M<|ak K3 M<|Cd M ?_ ?_)<;>clear H K2 K3
  ·intro h22 a H
   try have pV:=dT h22
   rw[ay pV,bQ,fQ]at CX;refine kP H<|SC<|aV uU eG 0 M M<|Rm M ?_;clear H;intro a H;refine gM aaq (Li:=[_]) (L:=X9) H wn M (ih fv Gi xs J _ _ _ (j+1) x.flow _ (fun b o h=>mJ b o<|hgm b o<|hGi b o h) hcb wK CX.now (Hp.owns (Li:=[_]) H.hp) (hfl.mono mJ) O CX.part) M ?_;clear H;intro v27 G27 ata a w aBo amB H;refine kH H<|Kn K1<|SC<|Rd M<|Rm M ?_;clear H K1;intro a H;refine aI ?_;refine dO ((k+1,j+1+(pJ x.flow).length,ata,G27)) (by exact(H.dR (Pl:=[_]) (dH:=[]) [] Z M).sub ⟨M,M,M,M,aC⟩) ?_
   (try dsimp only);exact⟨O,fun b o h=>amB b o (mJ b o<|hgm b o h),CX.jump aBo⟩
  intro h22 a H
  try have pV:=dF h22
  rw[au pV,fQ]at CX;refine kP H (SR fun _ K2=>Rc M<|ak K2 M<|Cd M ?_ ?_)<;>clear H K2
  ·intro eZ a H
   try have p28:=dT eZ
   rw[ay p28]at CX;refine kP H<|SR fun _ K2=>aV mZ lX 0 M M<|Rl jI M<|Rm M<|Kz K2<|SB ?_;clear H K2;intro a H;skip;refine dY (ι:=Nat×Nat×OL×GH) (Tc:=[(1,_),(10,_),(11,_),(12,_),(31,_),(32,_)]) (Lc:=[(_,_)]) (fun gh=>[(33,vi gh.1)]) (fun gh=>[]++gh.2.2.1) (fun gh=>gh.2.2.2) (fun gh=>gh.1<=x.rows.length∧(∀b o,LK b=some o->gh.2.2.2 b=some o)∧Now xs Ke J (j0+(pJ l).length) gh.2.1 (Br (x.rows.drop gh.1)++pJ (l.drop<|k+1)) gh.2.2.2 gh.2.2.1) (fun gh=>x.rows.length-gh.1) ((0,j+1,X9,LK)) (by exact H.sub ⟨M,M,M,M,M,M,M,aC⟩) ?_ ?_
   ·exact⟨O,fun _ _ h=>h,CX⟩
   clear H;rintro⟨rk,j3,Lt3,g3⟩ a w hI H;dsimp only at hI H;obtain⟨Im,hg3,pK⟩:=hI;dsimp only[lca,bq]at H;refine kP H (SR fun _ K2=>Rc M<|Kz K2<|SQ fun _ K3=>Cd M ?_ ?_)<;>clear H K2
   ·intro iB a H
    try have p34:=dT iB
    have hk3:rk<x.rows.length:=by omega
    obtain⟨b2,o2,qA,qn,qc,eA,en,ec,zA,zn,zc,cA,cn,cc,rfl,hrow,zk,hcl⟩:=Gg hk3 ((hrw.mono mJ).mono hg3).at_;have hcn:=hcl.len;rw[bM]at hcn;subst hcn;have hsz2:=GL hk3;have hcs:=EP x.rows[rk].cells;rw[mg hk3]at pK
    simp only[Br,aBy,iG,jl]at pK
    obtain⟨y,hy⟩:∃y,y=x.rows[rk]:=⟨_,M⟩;rw[<-hy]at pK hrow zk hcl hsz2 hcs;refine kP H<|Kc K3<|SQ fun _ K2=>SB<|SR fun _ K4=>Ri jI iC M M ?_;clear H K3;intro a H;refine aY iC (cs:=[_,_,_,_,_,_]) H wn M M (fun j v hj=>H.hp.aJ<|hrow j v hj) M ?_;clear H;intro a H;refine dK iC H wn M ?_;clear H;intro b7 a w Bt H;refine bH iC 0 (vs:=[_,_,_,_,_,_]) H wn M ?_;clear H;intro w H;refine K4 _ _ ?_;clear K4;refine kP H<|SR fun _ K3=>Rm M<|Rf Qj M ?_;clear H;intro a H;refine aY oC (cs:=[_,_,_,_,_]) H wn M M (H.hp.dB 0 M M) M ?_;clear H;intro a H;refine BM (Li:=[_,_]) (L:=Lt3) H wn M M (hcb _ _ _ _ _ ⟨_,pK.head,abJ zk⟩ (fun b o h=>hg3 b o<|mJ b o<|hgm b o<|hGi b o h) pK.now<|Hp.owns (Li:=[_,_]) H.hp) M ?_;clear H;intro v40 OX SX a w aBq FP H;have aCU:=pK.step aBq;refine K3 _ _ ?_;clear K3;refine kP H<|SR fun _ K3=>aV rT qD 0 M M<|Rl ko M<|Rm M<|Kz K3<|SB ?_;clear H K3;intro a H;skip;refine dY (ι:=Nat×Nat×OL×GH) (Tc:=[(1,_),(10,_),(11,_),(12,_),(31,_),(32,_),(33,_),(42,_),(43,_)]) (Lc:=[(_,_),(_,_)]) (fun gh=>[(44,vi gh.1)]) (fun gh=>[]++gh.2.2.1) (fun gh=>gh.2.2.2) (fun gh=>gh.1<=y.cells.length∧(∀b o,OX b=some o->gh.2.2.2 b=some o)∧Now xs Ke J (j0+(pJ l).length) gh.2.1 (CJ (y.cells.drop gh.1)++(Br (x.rows.drop<|rk+1)++pJ (l.drop<|k+1))) gh.2.2.2 gh.2.2.1) (fun gh=>y.cells.length-gh.1) ((0,j3+1,SX,OX)) (by exact H.sub ⟨M,M,M,M,M,M,M,M,M,M,aC⟩) ?_ ?_
    ·exact⟨O,fun _ _ h=>h,aCU⟩
    clear H;rintro⟨ck,j4,Lt4,g4⟩ a w hI H;dsimp only at hI H;obtain⟨hck,hg4,qK⟩:=hI;dsimp only[lca,bq]at H;refine kP H (SR fun _ K3=>Rc M<|Kz K3<|SQ fun _ K4=>Cd M ?_ ?_)<;>clear H K3
    ·intro h45 a H
     try have p45:=dT h45
     have hk4:ck<y.cells.length:=by omega
     obtain⟨b3,o3,sA,sn,sc,tA,tn,tc,uA,un,uc,gA,gn,gc,rfl,hrow,hch,hcf⟩:=Hr hk4 ((hcl.mono FP).mono hg4).at_;have NH:=GJ hk4;rw[mg hk4]at qK
     simp only[CJ,aAO,iG,jl]at qK
     refine kP H<|Kc K4<|SQ fun _ K3=>SB<|SR fun _ K5=>Ri ko iQ M M ?_;clear H K4;intro a H;refine aY iQ (cs:=[_,_,_,_,_,_,_]) H wn M M (fun j v hj=>H.hp.aJ<|hrow j v hj) M ?_;clear H;intro a H;refine dK iQ H wn M ?_;clear H;intro b9 a w yY H;refine bH iQ 0 (vs:=[_,_,_,_,_,_,_]) H wn M ?_;clear H;intro w H;refine K5 _ _ ?_;clear K5;refine kP H<|SR fun _ K4=>Rm M<|Rf Qk M ?_;clear H;intro a H;refine aY oC (cs:=[_,_,_,_,_]) H wn M M (H.hp.dB 0 M M) M ?_;clear H;intro a H;refine BM (Li:=[_,_,_]) (L:=Lt4) H wn M M (hcb _ _ _ _ _ ⟨_,qK.head,abJ hch⟩ (fun b o h=>hg4 b o<|FP b o<|hg3 b o<|mJ b o<|hgm b o<|hGi b o h) qK.now<|Hp.owns (Li:=[_,_,_]) H.hp) M ?_;clear H;intro v51 G51 atd a w aBs abO H;have Q0:=qK.step aBs;refine K4 _ _ ?_;clear K4;refine kP H<|SC<|aV Cr eG 0 M M<|Rm M ?_;clear H;intro a H;refine gM aaq (Li:=[_,_,_]) (L:=atd) H wn M (ih fv Gi xs J _ _ _ (j4+1) y.cells[ck].flow _ (fun b o h=>abO b o<|hg4 b o<|FP b o<|hg3 b o<|mJ b o<|hgm b o<|hGi b o h) hcb wK Q0.now (Hp.owns (Li:=[_,_,_]) H.hp) (hcf.mono abO) O Q0.part) M ?_;clear H;intro v55 LU ate a w aBt Ak H;refine kH H<|Kn K3<|SC<|Rd M<|Rm M ?_;clear H K3;intro a H;refine aI ?_;refine dO ((ck+1,j4+1+(pJ y.cells[ck].flow).length,ate,LU)) (by exact(H.dR (Pl:=[_,_,_]) (dH:=[_,_]) [1,2] Z M).sub ⟨M,M,M,M,M,M,M,M,M,M,aC⟩) ?_
     (try dsimp only);exact⟨O,fun b o h=>Ak b o (abO b o<|hg4 b o h),Q0.jump aBt⟩
    intro h45 a H
    try have p45:=dF h45
    refine dS ?_;refine K2 _ _ ?_;clear K2;refine kP H<|SC<|Rd M<|Rm M ?_;clear H;intro a H;refine aI ?_;refine dO ((rk+1,j4,Lt4,g4)) (by exact(H.dR (Pl:=[_,_]) (dH:=[_]) [1] Z M).sub ⟨M,M,M,M,M,M,M,aC⟩) ?_
    (try dsimp only);exact⟨O,fun b o h=>hg4 b o (FP b o<|hg3 b o h),by rw[mh O,CJ,fQ]at qK;exact qK⟩
   intro iB a H
   try have p34:=dF iB
   refine dS ?_;refine K1 _ _ ?_;clear K1;refine kP H<|SC<|Rd M<|Rm M ?_;clear H;intro a H;refine aI ?_;refine dO ((k+1,j3,Lt3,g3)) (by exact(H.dR (Pl:=[_]) (dH:=[]) [] Z M).sub ⟨M,M,M,M,aC⟩) ?_
   (try dsimp only);exact⟨O,fun b o h=>hg3 b o (mJ b o<|hgm b o h),by rw[mh O,Br,fQ]at pK;exact pK⟩
  intro eZ a H
  try have p28:=dF eZ
  rw[au p28,fQ]at CX;refine kP H<|Kc K1<|SC<|Rd M<|Rm M ?_;clear H K1;intro a H;refine aI ?_;refine dO ((k+1,j+1,X9,LK)) (by exact(H.dR (Pl:=[_]) (dH:=[]) [] Z M).sub ⟨M,M,M,M,aC⟩) ?_
  (try dsimp only);exact⟨O,fun b o h=>mJ b o (hgm b o h),CX⟩
 intro iA a H
 try have tK:=dF iA
 refine dS ?_;refine(leave0 H results174 ?_).2
 exact H.hp.lU (L':=Lt) (by repeat(first|exact nW _|apply List.Sublist.cons)) (by
   rw[mh O,pJ]at gy;have:=gy.len
   simp only[List.length_nil,oZ]at this
   rw[<-this];exact gy.now)
theorem amm:∀n:Nat,n<=4294967297->XY n
 |0,_=>fun _ _ _ _ _ _ _ _ _ _ _ _ _ _ _ _ h=>absurd h O
 |n+1,hn=>aB8 (amm n O) O
theorem aeZ{Q:ah->Prop}(hj:∀z y,Q z->Q y->vN z y->Q (lu z y)){out:List ah}{y:ah}(hy:Q y)(ho:∀z∈out,Q z):∀z∈addN out y,Q z:=by
 by_cases hd:uh y
 ·rw[Hf hd];exact ho
 by_cases h:∃o z,out=o++[z]∧vN z y
 ·obtain⟨o,z,rfl,hz⟩:=h;rw[Hg hd hz];intro x hx
  rcases iF.1 hx with h|h
  ·exact ho x<|List.mem_append_left _ h
  rw[oH.1 h];exact hj z y (ho z (by simp)) hy hz
 rw[EZ hd fun o z e hz=>h ⟨o,z,e,hz⟩];intro x hx
 rcases iF.1 hx with h|h
 ·exact ho x h
 rw[oH.1 h];exact hy
theorem alu{Q:ah->Prop}(hj:∀z y,Q z->Q y->vN z y->Q (lu z y)):∀(A out:List ah),(∀y∈A,Q y)->(∀z∈out,Q z)->∀z∈A.foldl addN out,Q z
 |[],_,_,ho=>ho
 |y::A,out,hA,ho=>alu hj A (addN out y) (fun x hx=>hA x<|gH _ hx)<|aeZ hj (hA y fJ) ho
theorem fold_add{γ:Type}{F:List ah->γ}{op:γ->γ->γ}{Q:ah->Prop}(hF:∀a b,F (a++b)=op (F a) (F b))(hj:∀z y,Q z->Q y->vN z y->Q (lu z y))(hd:∀y,Q y->¬uh y)
  (hg:∀o z y,Q z->Q y->vN z y->F (o++[lu z y])=op (F<|o++[z]) (F [y])):∀(A out:List ah),(∀y∈A,Q y)->(∀z∈out,Q z)->F (A.foldl addN out)=F (out++A)
 |[],out,_,_=>by rw[iR];rfl
 |y::A,out,hA,ho=>by
  have hy:=hA y fJ;rw[List.foldl_cons,fold_add hF hj hd hg A (addN out y) (fun x hx=>hA x<|gH _ hx) (aeZ hj hy ho),show out++y::A=(out++[y])++A by simp,hF,hF<|out++[y]]
  congr 1
  by_cases h:∃o z,out=o++[z]∧vN z y
  ·obtain⟨o,z,rfl,hz⟩:=h;rw[Hg (hd y hy) hz,hg o z y (ho z (by simp)) hy hz,<-hF]
  rw[EZ (hd y hy) fun o z e hz=>h ⟨o,z,e,hz⟩]
theorem xQ{x:ah}(h:iP x=0)(hk:x.kind=1):x.code=0∧x.id=0∧iI x.text=true∧rz x.text=false∧x.flow=[]∧x.rows=[]:=by
 have h0:=FD h
 unfold iP at h
 have hc:sV x=false:=by simp[sV,hk]
 have hn:tH x=false:=by simp[tH,hk]
 split at h
 ·cases h
 split at h
 ·cases h
 rename_i h2
 split at h
 ·cases h
 split at h
 ·cases h
 rename_i h4
 rw[hk]at h4
 simp only[um,hc,hn,Bool.not_false,Me,Bool.or_eq_true,not_or,Bool.not_eq_true,Ci,nL]at h2
 refine⟨h2.1.1.1.1,h2.1.1.1.2,h0.1,?_,h0.2.2.2 O,h0.2.2.1 O⟩
 cases he:rz x.text
 ·rfl
 rw[he]at h4;simp at h4
theorem Uu(s:ByteArray):rz s=decide (s.size=0):=by
 unfold rz
 rw[ByteArray.toList_eq,ByteArray.toList_eq,zL,qm,beq_iff_eq]
 constructor
 ·intro h;have:=cO List.length h
  simpa using this
 intro h;exact List.eq_nil_of_length_eq_zero (by rw[sQ];exact h)
theorem alz{z y:ah}(hz:iP z=0)(hy:iP y=0)(kz:z.kind=1)(ky:y.kind=1):iP (lu z y)=0:=by
 obtain⟨a1,a2,a3,a4,a5,a6⟩:=xQ hz kz;obtain⟨b1,b2,b3,b4,b5,b6⟩:=xQ hy ky;have hv:=arT a3 b3
 have he:rz (z.text++y.text)=false:=by
  rw[Uu,Ci]at a4|-;rw[ByteArray.size_append];omega
 unfold iP lu codeOk um vw vC sV tH
 simp only[ah.kind,ah.code,ah.id,ah.text,ah.flow,ah.rows]at *
 simp[kz,a1,a2,a5,a6,hv,he,vw,sV,tH,vC,ah.kind,ah.code]
theorem aaX{k c i:Int}{tx:ByteArray}{h:fI}{f f':List ah}{r r':List aN}(hx:iP (.mk k c i tx h f r)=0)(hf:k≠6->f=[]->f'=[])(hr:r'.length=r.length):iP (.mk k c i tx h f' r')=0:=by
 have h0:=(FD hx).2.2.2
 have e:um (.mk k c i tx h f' r')=um (.mk k c i tx h f r):=by
  have hfl:k≠6->f'.length=f.length:=fun h6=>by rw[hf h6 (h0 h6),show f=[]from h0 h6]
  rw[zL]
  simp only[um,Bool.or_eq_true,kV,qm]
  have c1:sV (.mk k c i tx h f' r')=sV (.mk k c i tx h f r):=rfl;have c2:tH (.mk k c i tx h f' r')=tH (.mk k c i tx h f r):=rfl;have c3:vC (.mk k c i tx h f' r')=vC (.mk k c i tx h f r):=rfl;rw[c1,c2,c3]
  show(((((_∧c≠0)∨(_∧i≠0))∨(_∧(!rz tx)=true))∨(k≠6∧0<(f'.length:Int)))∨(k≠7∧0<(r'.length:Int)))↔(((((_∧c≠0)∨(_∧i≠0))∨(_∧(!rz tx)=true))∨(k≠6∧0<(f.length:Int)))∨(k≠7∧0<(r.length:Int)))
  rw[hr]
  by_cases h6:k=6
  ·simp[h6]
  rw[hfl h6]
 have e2:codeOk (.mk k c i tx h f' r')=codeOk (.mk k c i tx h f r):=rfl;have e3:vw (.mk k c i tx h f' r')=vw (.mk k c i tx h f r):=rfl
 unfold iP at hx|-
 rw[e,e2,e3];exact hx
theorem tJ{C:bG}{body note:Bool}{t:Int}(x:ah):jQ C body note t x↔iP x=0∧WC body note t x.kind x.id∧iX C x.kind x.head=0∧(x.kind=6->fF C false true t x.flow)∧(x.kind=7->(x.rows.length≠0∧x.rows.length<=256)∧mM C note (t+1) x.rows):=by
 cases x;rw[jQ];rfl
theorem N7{C:bG}{body note:Bool}{t:Int}(z y:ah)(hz:jQ C body note t z)(hy:jQ C body note t y)(hj:vN z y):jQ C body note t (lu z y):=by
 rw[tJ]at *;refine⟨alz hz.1 hy.1 hj.2.1 hj.1,hz.2.1,hz.2.2.1,hz.2.2.2.1,hz.2.2.2.2⟩
theorem RQ{C:bG}{body note:Bool}{t:Int}(y:ah)(hy:jQ C body note t y):¬uh y:=by
 rw[tJ]at hy;rintro(⟨h1,h2⟩|⟨h1,h2⟩)
 ·exact(hy.2.2.2.2 h1).1.1 h2
 have:=(xQ hy.1 h1).2.2.2.1;rw[Uu]at this
 simp[h2]at this
theorem adp{C:bG}{body note:Bool}{t:Int}{A:List ah}(h:fF C body note t A):fF C body note t (A.foldl addN []):=nG.2 (alu N7 A [] (nG.1 h)<|fun _ h=>by cases h)
mutual
theorem aFJ(C:bG)(body note:Bool)(t:Int):∀x:ah,jQ C body note t x->jQ C body note t (nI x)
 |.mk k c i tx h f r,hx=>by
  have hf:=BI C false true t f;have hr:=apm C note (t+1) r;rw[jQ]at hx;rw[nI,jQ];exact⟨aaX hx.1 (fun _ e=>by rw[e];rfl) (by rw[Wj,bM]),hx.2.1,hx.2.2.1,fun e=>adp (hf (hx.2.2.2.1 e)),fun e=>⟨by rw[Wj,bM];exact(hx.2.2.2.2 e).1,hr (hx.2.2.2.2 e).2⟩⟩
theorem aFK(C:bG)(note:Bool)(t:Int):∀x:aN,pQ C note t x->pQ C note t (nR x)
 |.mk h cs,hx=>by
  have hc:=apl C note t cs;rw[pQ]at hx;rw[nR,pQ];exact⟨by rw[acZ,bM];exact hx.1,hc hx.2⟩
theorem aFI(C:bG)(note:Bool)(t:Int):∀x:aP,pO C note t x->pO C note t (nC x)
 |.mk i h f,hx=>by
  have hf:=BI C false note t f;rw[pO]at hx;rw[nC,pO];exact⟨hx.1,adp (hf hx.2)⟩
theorem BI(C:bG)(body note:Bool)(t:Int):∀l:List ah,fF C body note t l->fF C body note t (nS l)
 |[],_=>by rw[nS,fF];trivial
 |x::l,h=>by
  rw[fF]at h;rw[nS,fF];exact⟨aFJ C body note t x h.1,BI C body note t l h.2⟩
theorem apm(C:bG)(note:Bool)(t:Int):∀l:List aN,mM C note t l->mM C note t (sj l)
 |[],_=>by rw[sj,mM];trivial
 |x::l,h=>by
  rw[mM]at h;rw[sj,mM];exact⟨aFK C note t x h.1,apm C note t l h.2⟩
theorem apl(C:bG)(note:Bool)(t:Int):∀l:List aP,nE C note t l->nE C note t (rZ l)
 |[],_=>by rw[rZ,nE];trivial
 |x::l,h=>by
  rw[nE]at h;rw[rZ,nE];exact⟨aFI C note t x h.1,apl C note t l h.2⟩
end
theorem BH(l:List ah):fq l=(nS l).foldl addN []:=by simp[fq,sF,F6]
theorem Aw{C:bG}{body note:Bool}{t:Int}{l:List ah}(h:fF C body note t l):fF C body note t (fq l):=by rw[BH];exact adp<|BI C body note t l h
theorem C9:∀a b:List ah,gQ (a++b)=gQ a++gQ b
 |[],b=>by rw[gQ];rfl
 |x::a,b=>by rw[jl,gQ,gQ,C9 a b,iG]
theorem DJ:∀a b:List ah,gY (a++b)=gY a+gY b
 |[],b=>by rw[gY,fB];rfl
 |x::a,b=>by rw[jl,gY,gY,DJ a b,Nat.add_assoc]
theorem NJ{x:ah}(h:x.kind=1):qL x=[]:=by
 cases x;dsimp only[ah.kind]at h;subst h;simp[qL]
theorem OE{x:ah}(h:x.kind=1):uI x=dU x.text:=by
 cases x;dsimp only[ah.kind]at h;subst h;simp[uI,ah.text]
theorem acC{C:bG}{body note:Bool}{t:Int}{A:List ah}(h:fF C body note t A):gQ (A.foldl addN [])=gQ A :=
 (fold_add (F:=gQ) C9 (N7 (C:=C) (body:=body) (note:=note) (t:=t)) RQ (fun o z y _ _ hj=>by
  rw[C9,C9];simp only[gQ];rw[NJ hj.2.1,NJ hj.1,NJ (x:=lu z y) hj.2.1];simp) A [] (nG.1 h)<|fun _ h=>by cases h)
theorem ael{C:bG}{body note:Bool}{t:Int}{A:List ah}(h:fF C body note t A):gY (A.foldl addN [])=gY A :=
 (fold_add (F:=gY) DJ (N7 (C:=C) (body:=body) (note:=note) (t:=t)) RQ (fun o z y hz hy hj=>by
  rw[tJ]at hz hy
  rw[DJ,DJ];simp only[gY];rw[OE hj.2.1,OE hj.1,OE (x:=lu z y) hj.2.1,show(lu z y).text=z.text++y.text from rfl,P6 (FD hz.1).1 (FD hy.1).1];omega) A [] (nG.1 h)<|fun _ h=>by cases h)
theorem Jt {p:Prop} (h:p:=by
 exact ⟨M,M⟩):p:=h
mutual
theorem aEe(C:bG)(body note:Bool)(t:Int):∀x:ah,jQ C body note t x->qL (nI x)=qL x∧uI (nI x)=uI x
 |.mk k c i tx h f r,hx=>by
  have hf:=VZ C false true t f;have hr:=anY C note (t+1) r;rw[jQ]at hx;rw[nI,qL,qL,uI,uI]
  by_cases h6:k=6
  ·subst h6;have ho:=hx.2.2.2.1 M;have hn:=BI C false true t f ho
   simp only[if_true,au (show¬(6:Int)=7 by decide)]
   rw[acC hn,ael hn,(hf ho).1,(hf ho).2];exact Jt
  by_cases h7:k=7
  ·subst h7;have ho:=(hx.2.2.2.2 M).2
   simp only[if_true,au (show¬(7:Int)=6 by decide)]
   rw[(hr ho).1,(hr ho).2];exact Jt
  simp only[au h6,au h7]
  exact⟨aC,aC⟩
theorem aEf(C:bG)(note:Bool)(t:Int):∀x:aN,pQ C note t x->wQ (nR x)=wQ x∧uR (nR x)=uR x
 |.mk h cs,hx=>by
  have hc:=anX C note t cs;rw[pQ]at hx;rw[nR,wQ,wQ,uR,uR];exact hc hx.2
theorem aEd(C:bG)(note:Bool)(t:Int):∀x:aP,pO C note t x->wP (nC x)=wP x∧uC (nC x)=uC x
 |.mk i h f,hx=>by
  have hf:=VZ C false note t f;rw[pO]at hx;have hn:=BI C false note t f hx.2;rw[nC,wP,wP,uC,uC,acC hn,ael hn,(hf hx.2).1,(hf hx.2).2];exact Jt
theorem VZ(C:bG)(body note:Bool)(t:Int):∀l:List ah,fF C body note t l->gQ (nS l)=gQ l∧gY (nS l)=gY l
 |[],_=>by rw[nS];exact⟨M,M⟩
 |x::l,h=>by
  rw[fF]at h;have h1:=aEe C body note t x h.1;have h2:=VZ C body note t l h.2;rw[nS,gQ,gQ,gY,gY,h1.1,h1.2,h2.1,h2.2];exact Jt
theorem anY(C:bG)(note:Bool)(t:Int):∀l:List aN,mM C note t l->oh (sj l)=oh l∧qd (sj l)=qd l
 |[],_=>by rw[sj];exact⟨M,M⟩
 |x::l,h=>by
  rw[mM]at h;have h1:=aEf C note t x h.1;have h2:=anY C note t l h.2;rw[sj,oh,oh,qd,qd,h1.1,h1.2,h2.1,h2.2];exact Jt
theorem anX(C:bG)(note:Bool)(t:Int):∀l:List aP,nE C note t l->oM (rZ l)=oM l∧qE (rZ l)=qE l
 |[],_=>by rw[rZ];exact⟨M,M⟩
 |x::l,h=>by
  rw[nE]at h;have h1:=aEd C note t x h.1;have h2:=anX C note t l h.2;rw[rZ,oM,oM,qE,qE,h1.1,h1.2,h2.1,h2.2];exact Jt
end
theorem VQ{C:bG}{body note:Bool}{t:Int}{l:List ah}(h:fF C body note t l):gQ (fq l)=gQ l∧gY (fq l)=gY l:=by
 have hn:=BI C body note t l h;rw[BH,acC hn,ael hn];exact VZ C body note t l h
theorem aIb(z y:ah):bY (lu z y).dat<=bY z.dat+bY y.dat:=by
 rw[ah.sW,ah.sW,ah.sW]
 simp only[lu,ah.kind,ah.code,ah.id,ah.text,ah.head,ah.flow,ah.rows,bY,oz,ByteArray.size_append]
 omega
theorem xq(a b:List ah):aR (a++b)=aR a+aR b:=by rw[aR,iy,Ov]
theorem GN(y:ah):aR [y]=1+bY y.dat:=by simp[aR,fE]
theorem aJg(out:List ah)(y:ah):aR (addN out y)<=aR out+aR [y]:=by
 rcases Yq out y with e|e|⟨o,z,rfl,-,-,e⟩<;>rw[e]
 ·omega
 ·rw[xq];exact eP _
 have:=aIb z y;rw[xq,xq,GN,GN,GN];omega
theorem XD:∀(A out:List ah),aR (A.foldl addN out)<=aR out+aR A
 |[],out=>Nat.le_add_right _ _
 |y::A,out=>by
  have h1:=XD A<|addN out y;have h2:=aJg out y;have h3:=xq [y] A;rw[List.singleton_append]at h3;rw[List.foldl_cons,h3];omega
theorem ZM {p:Prop} (h:p:=by
 induction a with
 |nil=>simp[bY]
 | cons x a ih=>simp only [jl,bY,ih];omega):p:=h
mutual
theorem aJi:∀x:ah,bY (nI x).dat<=bY x.dat
 |.mk k c i tx h f r=>by
  have hf:=XE f;have hr:=asG r;have hd:=XD (nS f) [];have h0:aR []=0:=rfl
  have Sc:∀(a b:List Dat),bY (a++b)=bY a+bY b:=fun a b=>by
   exact ZM
  rw[nI,ah.sW,ah.sW]
  simp only[ah.kind,ah.code,ah.id,ah.text,ah.head,ah.flow,ah.rows,bY,oz,Sc]
  unfold aR at *
  unfold gB at hr
  omega
theorem aJj:∀x:aN,bY (nR x).dat<=bY x.dat
 |.mk h cs=>by
  have hc:=asF cs
  have Sc:∀(a b:List Dat),bY (a++b)=bY a+bY b:=fun a b=>by
   exact ZM
  rw[nR,aN.sW,aN.sW]
  simp only[aN.head,aN.cells,bY,oz,Sc]
  unfold iU at hc
  omega
theorem aJh:∀x:aP,bY (nC x).dat<=bY x.dat
 |.mk i h f=>by
  have hf:=XE f;have hd:=XD (nS f) [];have h0:aR []=0:=rfl
  have Sc:∀(a b:List Dat),bY (a++b)=bY a+bY b:=fun a b=>by
   exact ZM
  rw[nC,aP.sW,aP.sW]
  simp only[aP.id,aP.head,aP.flow,bY,oz,Sc]
  unfold aR at *
  omega
theorem XE:∀l:List ah,aR (nS l)<=aR l
 |[]=>by rw[nS];exact eP _
 |x::l=>by
  have h1:=aJi x;have h2:=XE l;rw[nS]
  simp only[aR,dV,fE]at *
  omega
theorem asG:∀l:List aN,gB (sj l)<=gB l
 |[]=>by rw[sj];exact eP _
 |x::l=>by
  have h1:=aJj x;have h2:=asG l;rw[sj]
  simp only[gB,dV,fE]at *
  omega
theorem asF:∀l:List aP,iU (rZ l)<=iU l
 |[]=>by rw[rZ];exact eP _
 |x::l=>by
  have h1:=aJh x;have h2:=asF l;rw[rZ]
  simp only[iU,dV,fE]at *
  omega
end
theorem Sz(l:List ah):aR (fq l)<=aR l:=by
 have h1:=XD (nS l) [];have h2:=XE l;have h0:aR []=0:=rfl;rw[BH];omega
def qp(x:ah)(u:Nat):ah:=.mk x.kind x.code x.id (oP x.text u) x.head x.flow x.rows
def ru(x:ah)(u:Nat):ah:=.mk x.kind x.code x.id (qQ x.text u) x.head x.flow x.rows
inductive oG(l:List ah)(t:Nat):List ah->List ah->Prop
 |between (p q:List ah) (h:l=p++q) (ht:t=bC p):oG l t p q
 |inside (p:List ah) (x:ah) (q:List ah) (u:Nat) (h:l=p++x::q) (hk:x.kind=1) (h0:0<u) (h1:u<dU x.text) (ht:t=bC p+u):oG l t (p++[qp x u]) (ru x u::q)
theorem oG.cons{l a b:List ah}{t:Nat}(x:ah)(h:oG l t a b):oG (x::l) (bO x+t) (x::a) b:=by
 cases h with
 |between p q h ht=>exact .between (x::a) b (by rw[h];rfl) (by rw[ht];rfl)
 |inside p y q u h hk h0 h1 ht=>exact .inside (x::p) y q u (by rw[h];rfl) hk h0 h1 (by rw[ht,bC];omega)
theorem aaf:∀(l:List ah)(t:Nat),t<=bC l->∃a b,oG l t a b
 |l,0,_=>⟨[],l,.between [] l M M⟩
 |[],t+1,h=>by rw[bC]at h;omega
 |x::l,t+1,h=>by
  rw[bC]at h
  by_cases hx:bO x<=t+1
  ·obtain⟨a,b,hc⟩:=aaf l (t+1-bO x) O;have:=hc.cons x;rw[show bO x+(t+1-bO x)=t+1 by omega]at this;exact⟨x::a,b,this⟩
  have hk:x.kind=1:=by
   by_cases hk:x.kind=1
   ·exact hk
   unfold bO at hx;rw[au hk]at hx;omega
  refine⟨_,_,.inside [] x l (t+1) M hk O ?_ (by rw[bC];omega)⟩
  unfold bO at hx;rw[ay hk]at hx;omega
def lG(t:Int)(a:Nat×ah):List ah:=if rC t a=true then[a.2]else if t<=(a.1:Int)then[]else[qp a.2 (t-a.1).toNat]
def rG(t:Int)(a:Nat×ah):List ah:=if rC t a=true then[]else if t<=(a.1:Int)then[a.2]else[ru a.2 (t-a.1).toNat]
theorem MZ{α β:Type}{A:List α}{k:Nat}(f:α->List β)(hk:k<A.length):(A.take<|k+1).flatMap f=(A.take k).flatMap f++f A[k]:=by
 rw[ji hk,List.flatMap_append];simp
theorem aoi(t:Int):∀(A:List (Nat×ah)),(A.flatMap<|lG t).length<=A.length
 |[]=>eP _
 |a::A=>by
  have ih:=aoi t A;rw[List.flatMap_cons,gT,lK]
  unfold lG at ih|-
  split
  ·simp only[List.length_singleton];omega
  split
  ·simp only[List.length_nil];omega
  simp only[List.length_singleton];omega
theorem apF(t:Int):∀(A:List (Nat×ah)),(A.flatMap<|rG t).length<=A.length
 |[]=>eP _
 |a::A=>by
  have ih:=apF t A;rw[List.flatMap_cons,gT,lK]
  unfold rG at ih|-
  split
  ·simp only[List.length_nil];omega
  split
  ·simp only[List.length_singleton];omega
  simp only[List.length_singleton];omega
theorem aaW{f:Nat×ah->List ah}:∀{A:List (Nat×ah)},(∀a∈A,f a=[a.2])->A.flatMap f=A.map (·.2)
 |[],_=>rfl
 |a::A,h=>by rw[List.flatMap_cons,h a fJ,aaW fun b hb=>h b<|gH _ hb];rfl
theorem alN{p:List ah}{t:Int}(h:((bC p:Nat):Int)<=t):(fO 0 p).flatMap (lG t)=p∧(fO 0 p).flatMap (rG t)=[]:=by
 have hf:∀a∈fO 0 p,rC t a=true:=fun a ha=>by
  have:=NZ ha;exact Y0
 constructor
 ·rw[aaW fun a ha=>by unfold lG;rw[ay<|hf a ha],KU]
 rw[List.flatMap_eq_nil_iff];intro a ha
 unfold rG;rw[ay<|hf a ha]
theorem alO{q:List ah}{o:Nat}{t:Int}(hq:∀y∈q,1<=bO y)(h:t<=(o:Int)):(fO o q).flatMap (lG t)=[]∧(fO o q).flatMap (rG t)=q:=by
 have hf:∀a∈fO o q,rC t a=false∧t<=(a.1:Int):=fun a ha=>by
  have h1:=NZ ha;have h2:=hq _ h1.2.2;exact⟨mE O,O⟩
 constructor
 ·rw[List.flatMap_eq_nil_iff];intro a ha
  unfold lG;rw[au (by rw[(hf a ha).1];decide),ay (hf a ha).2]
 rw[aaW fun a ha=>by unfold rG;rw[au (by rw[(hf a ha).1];decide),ay (hf a ha).2],KU]
theorem ajn{l a b:List ah}{t:Nat}(h:oG l t a b)(hu:∀y∈l,1<=bO y):(fO 0 l).flatMap (lG t)=a∧(fO 0 l).flatMap (rG t)=b:=by
 cases h with
 |between p q h ht=>
  subst h;obtain⟨h1,h2⟩:=alN (p:=a) (t:=t) O;obtain⟨h3,h4⟩:=alO (q:=b) (o:=0+bC a) (t:=t) (fun y hy=>hu y<|List.mem_append_right _ hy) O;rw[NY,List.flatMap_append,List.flatMap_append,h1,h2,h3,h4,iR,fQ];exact Jt
 |inside p x q u h hk h0 h1 ht=>
  subst h;obtain⟨g1,g2⟩:=alN (p:=p) (t:=t) O
  have hx:bO x=dU x.text:=by unfold bO;rw[ay hk]
  obtain⟨g3,g4⟩:=alO (q:=q) (o:=0+bC p+bO x) (t:=t) (fun y hy=>hu y (by simp[hy])) O;have hf:rC t (0+bC p,x)=false:=mE (by rw[hx];omega)
  have e:((t:Int)-((0+bC p:Nat):Int)).toNat=u:=by omega
  have hl:lG t (0+bC p,x)=[qp x u]:=by unfold lG;rw[au (by rw[hf];decide),au (by dsimp only;omega)];exact cO (fun k=>[qp x k]) e
  have hr:rG t (0+bC p,x)=[ru x u]:=by unfold rG;rw[au (by rw[hf];decide),au (by dsimp only;omega)];exact cO (fun k=>[ru x k]) e
  rw[NY,fO,List.flatMap_append,List.flatMap_append,List.flatMap_cons,List.flatMap_cons,g1,g2,g3,g4,hl,hr]
  simp
mutual
def pX(id:Int)(new:List ah)(q:Bool):ah->ah×Bool
 |.mk k c i tx h f r=>if k=6 then(if i=id∧q=false then(.mk k c i tx h new r,true)else(.mk k c i tx h (jk id new q f).1 r,(jk id new q f).2))
  else if k=7 then(.mk k c i tx h f (mD id new q r).1,(mD id new q r).2)else(.mk k c i tx h f r,q)
def tL(id:Int)(new:List ah)(q:Bool):aN->aN×Bool
 |.mk h cs=>(.mk h (mO id new q cs).1,(mO id new q cs).2)
def qN(id:Int)(new:List ah)(q:Bool):aP->aP×Bool
 |.mk i h f=>if i=id∧q=false then(.mk i h new,true)else(.mk i h (jk id new q f).1,(jk id new q f).2)
def jk(id:Int)(new:List ah)(q:Bool):List ah->List ah×Bool
 |[]=>([],q)
 |x::l=>((pX id new q x).1::(jk id new (pX id new q x).2 l).1,(jk id new (pX id new q x).2 l).2)
def mD(id:Int)(new:List ah)(q:Bool):List aN->List aN×Bool
 |[]=>([],q)
 |x::l=>((tL id new q x).1::(mD id new (tL id new q x).2 l).1,(mD id new (tL id new q x).2 l).2)
def mO(id:Int)(new:List ah)(q:Bool):List aP->List aP×Bool
 |[]=>([],q)
 |x::l=>((qN id new q x).1::(mO id new (qN id new q x).2 l).1,(mO id new (qN id new q x).2 l).2)
end
mutual
theorem apV(id:Int)(new:List ah):∀x:ah,pX id new true x=(x,true)
 |.mk k c i tx h f r=>by
  rw[pX,IJ id new f,Oh id new r,au (by simp:¬(i=id∧true=false))]
  split
  ·rfl
  split <;>rfl
theorem apZ(id:Int)(new:List ah):∀x:aN,tL id new true x=(x,true)
 |.mk h cs=>by rw[tL,Og id new cs]
theorem apR(id:Int)(new:List ah):∀x:aP,qN id new true x=(x,true)
 |.mk i h f=>by rw[qN,IJ id new f,au (by simp:¬(i=id∧true=false))]
theorem IJ(id:Int)(new:List ah):∀l:List ah,jk id new true l=(l,true)
 |[]=>by rw[jk]
 |x::l=>by rw[jk,apV id new x,IJ id new l]
theorem Oh(id:Int)(new:List ah):∀l:List aN,mD id new true l=(l,true)
 |[]=>by rw[mD]
 |x::l=>by rw[mD,apZ id new x,Oh id new l]
theorem Og(id:Int)(new:List ah):∀l:List aP,mO id new true l=(l,true)
 |[]=>by rw[mO]
 |x::l=>by rw[mO,apR id new x,Og id new l]
end
def rJ(id:Int)(new:List ah)(q:Bool)(i:Int)(f:List ah):List ah:=if i=id∧q=false then new else f
def sH(id:Int)(q:Bool)(i:Int):Bool:=q||decide (i=id)
theorem apu(id:Int)(new:List ah)(q:Bool)(i:Int)(f:List ah):jk id new (sH id q i) (rJ id new q i f)=if i=id∧q=false then(new,true)else jk id new q f:=by
 unfold sH rJ
 by_cases h:i=id∧q=false
 ·rw[ay h,ay h,kZ h.1,Bool.or_true,IJ]
 rw[au h,au h]
 by_cases h1:i=id
 ·have h2:q=true:=by cases q;exact absurd ⟨h1,M⟩ h;rfl
  rw[h2];rfl
 rw[mE h1,Bool.or_false]
theorem aGG{id:Int}{new:List ah}{q:Bool}{x:ah}(h:x.kind=6){m:List ah}{q':Bool}(e:jk id new (sH id q x.id) (rJ id new q x.id x.flow)=(m,q')):pX id new q x=(.mk x.kind x.code x.id x.text x.head m x.rows,q'):=by
 obtain⟨k,c,i,tx,hd,f,r⟩:=x;replace e:jk id new (sH id q i) (rJ id new q i f)=(m,q'):=e;rw[apu]at e;dsimp only[ah.kind]at h;rw[pX,ay h]
 by_cases h1:i=id∧q=false
 ·rw[ay h1]at e|-;cases e;rfl
 rw[au h1]at e|-;rw[e];rfl
theorem aGI{id:Int}{new:List ah}{q:Bool}{x:ah}(h:x.kind=7){m:List aN}{q':Bool}(e:mD id new q x.rows=(m,q')):pX id new q x=(.mk x.kind x.code x.id x.text x.head x.flow m,q'):=by
 obtain⟨k,c,i,tx,hd,f,r⟩:=x;dsimp only[ah.kind,ah.rows]at h e;rw[pX,bQ,ay h,e];rfl
theorem aGE{id:Int}{new:List ah}{q:Bool}{x:ah}(h:x.kind≠6)(h7:x.kind≠7):pX id new q x=(x,q):=by
 obtain⟨k,c,i,tx,hd,f,r⟩:=x;rw[pX,au (show¬k=6 from h),au (show¬k=7 from h7)]
theorem aGH{id:Int}{new:List ah}{q:Bool}{x:aN}{m:List aP}{q':Bool}(e:mO id new q x.cells=(m,q')):tL id new q x=(.mk x.head m,q'):=by
 obtain⟨h,cs⟩:=x;dsimp only[aN.cells]at e;rw[tL,e];rfl
theorem aGD{id:Int}{new:List ah}{q:Bool}(x:aP):qN id new q x=(.mk x.id x.head (jk id new (sH id q x.id)<|rJ id new q x.id x.flow).1,(jk id new (sH id q x.id)<|rJ id new q x.id x.flow).2):=by
 obtain⟨i,hd,f⟩:=x
 show qN id new q (.mk i hd f)=(.mk i hd (jk id new (sH id q i)<|rJ id new q i f).1,(jk id new (sH id q i)<|rJ id new q i f).2)
 rw[qN,apu]
 by_cases h:i=id∧q=false
 ·rw[ay h,ay h]
 rw[au h,au h]
theorem apX{id:Int}{new:List ah}:∀{q q':Bool}{l m:List ah}(x:ah),jk id new q l=(m,q')->jk id new q (l++[x])=(m++[(pX id new q' x).1],(pX id new q' x).2)
 |q,q',[],m,x,h=>by rw[jk]at h;cases h;rw[fQ,jk,jk];rfl
 |q,q',y::l,m,x,h=>by
  rw[jk]at h
  cases h
  rw[jl,jk,apX x (Prod.eta _).symm];rfl
theorem aqc{id:Int}{new:List ah}:∀{q q':Bool}{l m:List aN}(x:aN),mD id new q l=(m,q')->mD id new q (l++[x])=(m++[(tL id new q' x).1],(tL id new q' x).2)
 |q,q',[],m,x,h=>by rw[mD]at h;cases h;rw[fQ,mD,mD];rfl
 |q,q',y::l,m,x,h=>by
  rw[mD]at h
  cases h
  rw[jl,mD,aqc x (Prod.eta _).symm];rfl
theorem apT{id:Int}{new:List ah}:∀{q q':Bool}{l m:List aP}(x:aP),mO id new q l=(m,q')->mO id new q (l++[x])=(m++[(qN id new q' x).1],(qN id new q' x).2)
 |q,q',[],m,x,h=>by rw[mO]at h;cases h;rw[fQ,mO,mO];rfl
 |q,q',y::l,m,x,h=>by
  rw[mO]at h
  cases h
  rw[jl,mO,apT x (Prod.eta _).symm];rfl
theorem apW{id:Int}{new:List ah}:∀{q q':Bool}{l m:List ah},jk id new q l=(m,q')->m.length=l.length
 |q,q',[],m,h=>by rw[jk]at h;cases h;rfl
 |q,q',y::l,m,h=>by rw[jk]at h;cases h;rw[lK,lK,apW (Prod.eta _).symm]
theorem aqb{id:Int}{new:List ah}:∀{q q':Bool}{l m:List aN},mD id new q l=(m,q')->m.length=l.length
 |q,q',[],m,h=>by rw[mD]at h;cases h;rfl
 |q,q',y::l,m,h=>by rw[mD]at h;cases h;rw[lK,lK,aqb (Prod.eta _).symm]
theorem aGB{id:Int}{new:List ah}{q q':Bool}{x:aP}{l ds:List aP}{k:Nat}(hk:k<ds.length)(h:mO id new q l=(ds.take k,q')):mO id new q (l++[x])=((ds.set k (qN id new q' x).1).take (k+1),(qN id new q' x).2):=by
 rw[apT x h,ji (by rw[List.length_set];exact hk),List.take_set_of_le (eP _),List.getElem_set_self]
def V9(q:Bool)(l:List ah):Nat:=aR l+bif q then 0 else 2147483648
theorem aoF{id:Int}{new:List ah}{b q:Bool}{l f:List ah}{n:Nat}{i:Int}(hb:b=true->q=true)(hz:aR f<aR l)(hl:aR l<=1073741824)(h:V9 b l<n+1)(hn:aR new<=1073741824):V9 (sH id q i) (rJ id new q i f)<n∧aR (rJ id new q i f)<=1073741824:=by
 unfold V9 sH rJ at *
 cases b<;>cases q<;>by_cases hi:i=id<;>simp_all <;>omega
theorem aGF{id:Int}{new:List ah}{b q:Bool}{l m:List ah}(h:jk id new b l=(m,q))(hb:b=true):q=true:=by subst hb;rw[IJ]at h;cases h;rfl
theorem aGC{id:Int}{new:List ah}{b q:Bool}{l m:List aN}(h:mD id new b l=(m,q))(hb:b=true):q=true:=by subst hb;rw[Oh]at h;cases h;rfl
theorem aGA{id:Int}{new:List ah}{b q:Bool}{l m:List aP}(h:mO id new b l=(m,q))(hb:b=true):q=true:=by subst hb;rw[Og]at h;cases h;rfl
theorem IG{d:jq}(h:jK d=0):zH d.flow:=by
 have h1:=mo h _<|gH _<|gH _ fJ;exact zH.of<|Um h1
inductive iK where
 |note (a b:List ah) (c i:Int) (tx:ByteArray) (h:fI) (r:List aN)
 |cell (a b:List ah) (c i:Int) (tx:ByteArray) (h:fI) (f:List ah) (ra rb:List aN) (rh:fI) (ca cb:List aP) (ci:Int) (ch:fI)
def iK.plug:iK->List ah->List ah
 |.note a b c i tx h r,m=>a++.mk 6 c i tx h m r::b
 |.cell a b c i tx h f ra rb rh ca cb ci ch,m=>a++.mk 7 c i tx h f (ra++.mk rh (ca++.mk ci ch m::cb)::rb)::b
def iK.id:iK->Int
 |.note _ _ _ i _ _ _=>i
 |.cell _ _ _ _ _ _ _ _ _ _ _ _ ci _=>ci
def iK.ext(p q:List ah):iK->iK
 |.note a b c i tx h r=>.note (p++a) (b++q) c i tx h r
 |.cell a b c i tx h f ra rb rh ca cb ci ch=>.cell (p++a) (b++q) c i tx h f ra rb rh ca cb ci ch
theorem iK.akB(p q:List ah)(fr:iK)(m:List ah):(fr.ext p q).plug m=p++fr.plug m++q:=by cases fr<;>simp[iK.ext,iK.plug]
theorem iK.azD(p q:List ah)(fr:iK):(fr.ext p q).id=fr.id:=by cases fr<;>rfl
def lF:List iK->List ah->List ah
 |[],m=>m
 |fr::c,m=>fr.plug (lF c m)
def hid(d:Int):List iK->Int
 |[]=>d
 |fr::c=>hid fr.id c
theorem ahg {p:Prop} (h:p:=by
 by_cases hi:i=id∧q=false
 ·rw[ay hi]at e;cases e
 rw [au hi] at e |-;rw [hf e]):p:=h
mutual
theorem apU(id:Int)(new:List ah)(q:Bool):∀x:ah,(pX id new q x).2=false->pX id new q x=(x,false)
 |.mk k c i tx h f r,e=>by
  have hf:=adx id new q f;have hr:=aqa id new q r;rw[pX]at e|-
  by_cases h6:k=6
  ·rw[ay h6]at e|-
   exact ahg
  rw[au h6]at e|-
  by_cases h7:k=7
  ·rw[ay h7]at e|-;rw[hr e]
  rw[au h7]at e|-;dsimp only at e;rw[e]
theorem apY(id:Int)(new:List ah)(q:Bool):∀x:aN,(tL id new q x).2=false->tL id new q x=(x,false)
 |.mk h cs,e=>by
  have hc:=apS id new q cs;rw[tL]at e|-;rw[hc e]
theorem apQ(id:Int)(new:List ah)(q:Bool):∀x:aP,(qN id new q x).2=false->qN id new q x=(x,false)
 |.mk i h f,e=>by
  have hf:=adx id new q f;rw[qN]at e|-
  exact ahg
theorem adx(id:Int)(new:List ah)(q:Bool):∀l:List ah,(jk id new q l).2=false->jk id new q l=(l,false)
 |[],e=>by rw[jk]at e|-;dsimp only at e;rw[e]
 |x::l,e=>by
  rw[jk]at e|-
  cases hx:(pX id new q x).2 with
  |true=>rw[hx,IJ]at e;cases e
  |false=>
   have h1:=apU id new q x hx
   have hq:q=false:=by cases q;rfl;rw[apV]at hx;cases hx
   subst hq;rw[h1]at e|-;rw[adx id new false l e]
theorem aqa(id:Int)(new:List ah)(q:Bool):∀l:List aN,(mD id new q l).2=false->mD id new q l=(l,false)
 |[],e=>by rw[mD]at e|-;dsimp only at e;rw[e]
 |x::l,e=>by
  rw[mD]at e|-
  cases hx:(tL id new q x).2 with
  |true=>rw[hx,Oh]at e;cases e
  |false=>
   have h1:=apY id new q x hx
   have hq:q=false:=by cases q;rfl;rw[apZ]at hx;cases hx
   subst hq;rw[h1]at e|-;rw[aqa id new false l e]
theorem apS(id:Int)(new:List ah)(q:Bool):∀l:List aP,(mO id new q l).2=false->mO id new q l=(l,false)
 |[],e=>by rw[mO]at e|-;dsimp only at e;rw[e]
 |x::l,e=>by
  rw[mO]at e|-
  cases hx:(qN id new q x).2 with
  |true=>rw[hx,Og]at e;cases e
  |false=>
   have h1:=apQ id new q x hx
   have hq:q=false:=by cases q;rfl;rw[apR]at hx;cases hx
   subst hq;rw[h1]at e|-;rw[apS id new false l e]
end
def O8(id:Int)(new l m:List ah):Prop:=∃fr c f0,hid fr.id c=id∧l=lF (fr::c) f0∧m=lF (fr::c) new
def aeM(id:Int)(new:List ah)(x y:aP):Prop:=∃ci ch c f0,hid ci c=id∧x=.mk ci ch (lF c f0)∧y=.mk ci ch (lF c new)
def aeN(id:Int)(new:List ah)(l m:List aP):Prop:=∃ca x y cb,aeM id new x y∧l=ca++x::cb∧m=ca++y::cb
def aeO(id:Int)(new:List ah)(x y:aN):Prop:=∃rh cs cs',aeN id new cs cs'∧x=.mk rh cs∧y=.mk rh cs'
def atg(id:Int)(new:List ah)(l m:List aN):Prop:=∃ra x y rb,aeO id new x y∧l=ra++x::rb∧m=ra++y::rb
theorem O8.ext{id:Int}{new l m:List ah}(h:O8 id new l m)(p q:List ah):O8 id new (p++l++q) (p++m++q):=by
 obtain⟨fr,c,f0,h1,rfl,rfl⟩:=h;exact⟨fr.ext p q,c,f0,by rw[iK.azD];exact h1,(iK.akB p q fr _).symm,(iK.akB p q fr _).symm⟩
theorem afH {p:Prop} (h:p:=by
 exact ⟨x :: ra,x',y,rb,h1,by rw [h2];rfl,by rw [h3];rfl⟩):p:=h
mutual
theorem aI1(id:Int)(new:List ah):∀x:ah,(pX id new false x).2=true->O8 id new [x] [(pX id new false x).1]
 |.mk k c i tx h f r,e=>by
  have hf:=Xy id new f;have hr:=asc id new r;rw[pX]at e|-
  by_cases h6:k=6
  ·subst h6;rw[ay M]at e|-
   by_cases hi:i=id∧false=false
   ·rw[ay hi];exact⟨.note [] [] c i tx h r,[],f,hi.1,M,M⟩
   rw[au hi]at e|-;obtain⟨fr,c',f0,h1,h2,h3⟩:=hf e;refine⟨.note [] [] c i tx h r,fr::c',f0,h1,?_,?_⟩
   ·show _=[ah.mk 6 c i tx h (lF (fr::c') f0) r];rw[<-h2]
   show _=[ah.mk 6 c i tx h (lF (fr::c') new) r];rw[<-h3]
  rw[au h6]at e|-
  by_cases h7:k=7
  ·subst h7;rw[ay M]at e|-;obtain⟨ra,x,y,rb,⟨rh,cs,cs',⟨ca,x1,y1,cb,⟨ci,ch,c',f0,h1,rfl,rfl⟩,rfl,rfl⟩,rfl,rfl⟩,h2,h3⟩:=hr e;exact⟨.cell [] [] c i tx h f ra rb rh ca cb ci ch,c',f0,h1,by rw[h2];rfl,by rw[h3];rfl⟩
  rw[au h7]at e;cases e
theorem aI3(id:Int)(new:List ah):∀x:aN,(tL id new false x).2=true->aeO id new x (tL id new false x).1
 |.mk h cs,e=>by
  have hc:=asb id new cs;rw[tL]at e|-;exact⟨h,cs,_,hc e,M,M⟩
theorem aI0(id:Int)(new:List ah):∀x:aP,(qN id new false x).2=true->aeM id new x (qN id new false x).1
 |.mk i h f,e=>by
  have hf:=Xy id new f;rw[qN]at e|-
  by_cases hi:i=id∧false=false
  ·rw[ay hi];exact⟨i,h,[],f,hi.1,M,M⟩
  rw[au hi]at e|-;obtain⟨fr,c',f0,h1,h2,h3⟩:=hf e;exact⟨i,h,fr::c',f0,h1,by rw[<-h2],by rw[<-h3]⟩
theorem Xy(id:Int)(new:List ah):∀l:List ah,(jk id new false l).2=true->O8 id new l (jk id new false l).1
 |[],e=>by rw[jk]at e;cases e
 |x::l,e=>by
  have hl:=Xy id new l;rw[jk]at e|-
  cases hx:(pX id new false x).2 with
  |true=>rw[IJ];exact(aI1 id new x hx).ext [] l
  |false=>
   rw[apU id new false x hx]at e|-;have:=(hl e).ext [x] []
   simpa using this
theorem asc(id:Int)(new:List ah):∀l:List aN,(mD id new false l).2=true->atg id new l (mD id new false l).1
 |[],e=>by rw[mD]at e;cases e
 |x::l,e=>by
  have hl:=asc id new l;rw[mD]at e|-
  cases hx:(tL id new false x).2 with
  |true=>rw[Oh];exact⟨[],x,_,l,aI3 id new x hx,M,M⟩
  |false=>
   rw[apY id new false x hx]at e|-;obtain⟨ra,x',y,rb,h1,h2,h3⟩:=hl e;exact afH
theorem asb(id:Int)(new:List ah):∀l:List aP,(mO id new false l).2=true->aeN id new l (mO id new false l).1
 |[],e=>by rw[mO]at e;cases e
 |x::l,e=>by
  have hl:=asb id new l;rw[mO]at e|-
  cases hx:(qN id new false x).2 with
  |true=>rw[Og];exact⟨[],x,_,l,aI0 id new x hx,M,M⟩
  |false=>
   rw[apQ id new false x hx]at e|-;obtain⟨ra,x',y,rb,h1,h2,h3⟩:=hl e;exact afH
end
theorem anJ:∀a b:List aN,oh (a++b)=oh a++oh b
 |[],b=>by rw[fQ,oh];rfl
 |x::a,b=>by rw[jl,oh,oh,anJ a b,iG]
theorem anI:∀a b:List aP,oM (a++b)=oM a++oM b
 |[],b=>by rw[fQ,oM];rfl
 |x::a,b=>by rw[jl,oM,oM,anI a b,iG]
theorem arH:∀a b:List aN,qd (a++b)=qd a+qd b
 |[],b=>by rw[fQ,qd,fB]
 |x::a,b=>by rw[jl,qd,qd,arH a b,Nat.add_assoc]
theorem arF:∀a b:List aP,qE (a++b)=qE a+qE b
 |[],b=>by rw[fQ,qE,fB]
 |x::a,b=>by rw[jl,qE,qE,arF a b,Nat.add_assoc]
theorem aeT:∀a b:List aN,jT (a++b)=jT a++jT b
 |[],b=>by rw[fQ,jT];rfl
 |x::a,b=>by rw[jl,jT,jT,aeT a b,iG]
theorem aeR:∀a b:List aP,kU (a++b)=kU a++kU b
 |[],b=>by rw[fQ,kU];rfl
 |x::a,b=>by rw[jl,kU,kU,aeR a b,iG]
def rY:List ah->Nat
 |[]=>0
 |x::l=>n1 x+rY l
theorem AY(g:Int):∀(t:Nat)(a b:List ah),cB g t (a++b)=cB g t a++cB g (t+rY a) b
 |t,[],b=>by rw[fQ,cB,rY,oZ];rfl
 |t,x::a,b=>by rw[jl,cB,cB,AY g (t+n1 x) a b,rY,iG,Nat.add_assoc]
theorem aAz(fr:iK):∃A B,∀m,gQ (fr.plug m)=A++gQ m++B:=by
 cases fr with
 |note a b c i tx h r=>exact⟨gQ a++[i],gQ b,fun m=>by simp[iK.plug,C9,gQ,qL]⟩
 |cell a b c i tx h f ra rb rh ca cb ci ch=>exact⟨gQ a++[i]++oh ra++oM ca++[ci],oM cb++oh rb++gQ b,fun m=>by simp[iK.plug,C9,gQ,qL,anJ,oh,wQ,anI,oM,wP]⟩
theorem aAC(fr:iK):∃n,∀m,gY (fr.plug m)=n+gY m:=by
 cases fr with
 |note a b c i tx h r=>exact⟨gY a+1+gY b,fun m=>by simp[iK.plug,DJ,gY,uI];omega⟩
 |cell a b c i tx h f ra rb rh ca cb ci ch=>exact⟨gY a+1+qd ra+qE ca+qE cb+qd rb+gY b,fun m=>by simp[iK.plug,DJ,gY,uI,arH,qd,uR,arF,qE,uC];omega⟩
theorem OO(x:ah)(l:List ah):aR (x::l)=1+bY x.dat+aR l:=by rw[show x::l=[x]++l from rfl,xq,GN]
theorem aJd(a b:List aN):gB (a++b)=gB a+gB b:=by rw[gB,iy,Ov]
theorem asB(x:aN)(l:List aN):gB (x::l)=1+bY x.dat+gB l:=by simp[gB,fE]
theorem aI9(a b:List aP):iU (a++b)=iU a+iU b:=by rw[iU,iy,Ov]
theorem asu(x:aP)(l:List aP):iU (x::l)=1+bY x.dat+iU l:=by simp[iU,fE]
theorem aAB(fr:iK):∃n,∀m,aR (fr.plug m)=n+aR m:=by
 cases fr with
 |note a b c i tx h r=>exact⟨aR a+1+(tx.size+oF h+gB r+6)+aR b,fun m=>by
   rw[iK.plug,xq,OO,lY];dsimp only[ah.text,ah.head,ah.flow,ah.rows];omega⟩
 |cell a b c i tx h f ra rb rh ca cb ci ch=>exact⟨aR a+1+(tx.size+oF h+aR f+(gB ra+(1+(oF rh+(iU ca+(1+(oF ch+2)+iU cb))+1)+gB rb))+6)+aR b,fun m=>by
   rw[iK.plug,xq,OO,lY];dsimp only[ah.text,ah.head,ah.flow,ah.rows];rw[aJd,asB,zC];dsimp only[aN.head,aN.cells]
   rw[aI9,asu,AU];dsimp only[aP.head,aP.flow];omega⟩
theorem aAy(fr:iK)(g:Int)(t:Nat):∃A B,∀m,cB g t (fr.plug m)=A++cB fr.id 0 m++B:=by
 cases fr with
 |note a b c i tx h r=>exact⟨cB g t a,cB g (t+rY a+1) b,fun m=>by
   rw[iK.plug,AY,cB,sP,show n1 (.mk 6 c i tx h m r)=1 from rfl];simp[iK.id]⟩
 |cell a b c i tx h f ra rb rh ca cb ci ch=>exact⟨cB g t a++(jT ra++kU ca),kU cb++jT rb++cB g (t+rY a+1) b,fun m=>by
   rw[iK.plug,AY,cB,sP,show∀rs,n1 (.mk 7 c i tx h f rs)=1 from fun _=>rfl];simp[iK.id,aeT,jT,wD,aeR,kU,wC]⟩
theorem aAA(C:bG)(fr:iK)(body note:Bool)(t:Int)(f0:List ah)(h:fF C body note t (fr.plug f0)):∃b n tt,fF C b n tt f0∧∀m,fF C b n tt m->fF C body note t (fr.plug m):=by
 rw[nG]at h
 cases fr with
 |note a b c i tx hd r=>
  have hx:=h (.mk 6 c i tx hd f0 r) (by simp[iK.plug]);rw[jQ]at hx;refine⟨false,true,t,hx.2.2.2.1 M,fun m hm=>?_⟩;rw[nG];intro x hx'
  simp only[iK.plug,iF,iL]at hx'
  rcases hx' with h1|rfl|h1
  ·exact h x (by simp[iK.plug,h1])
  ·rw[jQ];exact⟨aaX hx.1 (fun e=>absurd M e) M,hx.2.1,hx.2.2.1,fun _=>hm,hx.2.2.2.2⟩
  exact h x (by simp[iK.plug,h1])
 |cell a b c i tx hd f ra rb rh ca cb ci ch=>
  have hx:=h (.mk 7 c i tx hd f (ra++.mk rh (ca++.mk ci ch f0::cb)::rb)) (by simp[iK.plug]);rw[jQ]at hx;obtain⟨h1,h2,h3,h4,h5⟩:=hx;obtain⟨h5,h6⟩:=h5 M;rw[ado]at h6;have h7:=h6 (.mk rh (ca++.mk ci ch f0::cb)) (by simp);rw[pQ,adl]at h7;have h8:=h7.2 (.mk ci ch f0) (by simp);rw[pO]at h8;refine⟨false,note,t+1,h8.2,fun m hm=>?_⟩;rw[nG];intro x hx'
  simp only[iK.plug,iF,iL]at hx'
  rcases hx' with g1|rfl|g1
  ·exact h x (by simp[iK.plug,g1])
  ·rw[jQ];refine⟨aaX h1 (fun _ e=>e) (by simp),h2,h3,h4,fun _=>⟨by simpa using h5,?_⟩⟩;rw[ado];intro y hy
   simp only[iF,iL]at hy
   rcases hy with g2|rfl|g2
   ·exact h6 y (by simp[g2])
   ·rw[pQ,adl];refine⟨by simpa using h7.1,fun z hz=>?_⟩
    simp only[iF,iL]at hz
    rcases hz with g3|rfl|g3
    ·exact h7.2 z (by simp[g3])
    ·rw[pO];exact⟨h8.1,hm⟩
    exact h7.2 z (by simp[g3])
   exact h6 y (by simp[g2])
  exact h x (by simp[iK.plug,g1])
theorem Xx{note:Bool}{t:Int}{F:eU}:∀{l:List ah}{x:ah},x∈l->F∈qh note t x->F∈iD note t l
 |y::l,x,hx,h=>by
  rw[iD]
  rcases iL.1 hx with rfl|hx
  ·exact List.mem_append_left _ h
  exact List.mem_append_right _<|Xx hx h
theorem arX{note:Bool}{t:Int}{F:eU}:∀{l:List aN}{x:aN},x∈l->F∈qW note t x->F∈kR note t l
 |y::l,x,hx,h=>by
  rw[kR]
  rcases iL.1 hx with rfl|hx
  ·exact List.mem_append_left _ h
  exact List.mem_append_right _<|arX hx h
theorem arU{note:Bool}{t:Int}{F:eU}:∀{l:List aP}{x:aP},x∈l->F∈qg note t x->F∈kX note t l
 |y::l,x,hx,h=>by
  rw[kX]
  rcases iL.1 hx with rfl|hx
  ·exact List.mem_append_left _ h
  exact List.mem_append_right _<|arU hx h
theorem alB (fr:iK) (note:Bool) (t:Int) (m:List ah):∃ b n tt,⟨fr.id,m,b,n,tt⟩∈iD note t (fr.plug m)∧∀ F∈iD n tt m,F∈iD note t (fr.plug m):=by
 cases fr with
 | note a b c i tx h r =>
  refine ⟨false,true,t,Xx (x:=.mk 6 c i tx h m r) (by simp [iK.plug]) (by rw [qh,ay M];exact fJ),fun F hF=>Xx (x:=.mk 6 c i tx h m r) (by simp [iK.plug]) (by rw [qh,ay M];exact gH _ hF)⟩
 | cell a b c i tx h f ra rb rh ca cb ci ch =>
  have hc:∀ F∈qg note t (.mk ci ch m),F∈iD note t ((iK.cell a b c i tx h f ra rb rh ca cb ci ch).plug m):=fun F hF =>
   Xx (x:=.mk 7 c i tx h f (ra++.mk rh (ca++.mk ci ch m :: cb) :: rb)) (by simp [iK.plug]) (by
    rw [qh,au Z,ay M]
    exact arX (x:=.mk rh (ca++.mk ci ch m :: cb)) (by simp) (by rw [qW];exact arU (x:=.mk ci ch m) (by simp) hF))
  refine ⟨false,note,t+1,hc _ (by rw [qg];exact fJ),fun F hF=>hc _ (by rw [qg];exact gH _ hF)⟩
theorem apv:∀c:List iK,∃A B,∀m,gQ (lF c m)=A++gQ m++B
 |[]=>⟨[],[],fun m=>by simp[lF]⟩
 |fr::c=>by
  obtain⟨A,B,h1⟩:=aAz fr;obtain⟨A',B',h2⟩:=apv c;exact⟨A++A',B'++B,fun m=>by rw[lF,h1,h2];simp⟩
theorem afI {p:Prop} (h:p:=by
 exact ⟨n+k,fun m=>by rw [lF,h1,h2,Nat.add_assoc]⟩):p:=h
theorem apy:∀c:List iK,∃n,∀m,gY (lF c m)=n+gY m
 |[]=>⟨0,fun m=>by simp[lF]⟩
 |fr::c=>by
  obtain⟨n,h1⟩:=aAC fr;obtain⟨k,h2⟩:=apy c;exact afI
theorem apx:∀c:List iK,∃n,∀m,aR (lF c m)=n+aR m
 |[]=>⟨0,fun m=>by simp[lF]⟩
 |fr::c=>by
  obtain⟨n,h1⟩:=aAB fr;obtain⟨k,h2⟩:=apx c;exact afI
theorem ads:∀(c:List iK)(g:Int),∃A B,∀m,cB g 0 (lF c m)=A++cB (hid g c) 0 m++B
 |[],g=>⟨[],[],fun m=>by simp[lF,hid]⟩
 |fr::c,g=>by
  obtain⟨A,B,h1⟩:=aAy fr g 0;obtain⟨A',B',h2⟩:=ads c fr.id;exact⟨A++A',B'++B,fun m=>by rw[lF,h1,h2,hid];simp⟩
theorem adt(C:bG):∀(c:List iK)(body note:Bool)(t:Int)(f0:List ah),fF C body note t (lF c f0)->∃b n tt,fF C b n tt f0∧∀m,fF C b n tt m->fF C body note t (lF c m)
 |[],body,note,t,f0,h=>⟨body,note,t,h,fun _ h=>h⟩
 |fr::c,body,note,t,f0,h=>by
  obtain⟨b,n,tt,h1,h2⟩:=aAA C fr body note t _ h;obtain⟨b',n',tt',h3,h4⟩:=adt C c b n tt f0 h1;exact⟨b',n',tt',h3,fun m hm=>h2 _<|h4 m hm⟩
theorem apw:∀(fr:iK)(c:List iK)(note:Bool)(t:Int)(m:List ah),∃b n tt,⟨hid fr.id c,m,b,n,tt⟩∈iD note t (lF (fr::c) m)
 |fr,[],note,t,m=>by
  obtain⟨b,n,tt,h,-⟩:=alB fr note t m;exact⟨b,n,tt,h⟩
 |fr,fr'::c,note,t,m=>by
  obtain⟨b,n,tt,-,h⟩:=alB fr note t<|lF (fr'::c) m;obtain⟨b',n',tt',h'⟩:=apw fr' c n tt m;exact⟨b',n',tt',h _ h'⟩
theorem aiy {p:Prop} (h:p:=by
 cases c with
 |nil=>exact⟨_,fJ,M,M⟩
 |cons fr c=>
  obtain ⟨b,n,tt,h1⟩:=apw fr c false 0 f0;exact ⟨_,gH _ h1,M,M⟩):p:=h
theorem aF2 {c:List iK} {f0:List ah} (h:zH (lF c f0)):iZ (lF c f0) (hid 0 c)=some f0:=by
 have hm:∃ F∈gJ (lF c f0),F.id=hid 0 c∧F.items=f0:=by
  exact aiy
 obtain ⟨F,h1,h2,h3⟩:=hm
 unfold iZ
 rw [<- h2,Qp h.ids h1,<- h3];rfl

section
section
variable{N:Nat}{D:List Deferred}{w0:World}{F:Nat->Prop}{G0 G:GH}{L:OL}{T:List (Nat×aj)}
variable{r:Option Nat}{P:Program}{ops:Array Oper}{Q:Exit->Act->World->Prop}{rest:List Oper}{a:Act}{w:World}
variable{d:Nat}{ty:TypeId}{pos:String}{aT:Array Edge}{g:Option (Nat×Bool)}
end
end
def aof:Go.Shelf.Ren:=⟨fun|7=>176|10=>232|n=>n,fun|0=>0|3=>4|4=>4|23=>103|26=>3|27=>106|28=>107|33=>186|n=>n,fun n=>n⟩
theorem aoe:Go.Proofs.SlLaysZI.n7 prog aof where
 mixed:=by kernel_rfl
 f7:=⟨f176.name,V,func176.trans<|cO some V⟩
 f10:=⟨f232.name,V,func232.trans<|cO some V⟩
 t0:=underlying0
 a0:=isAgg0
 z0:=sizeOf0
 v0:=zeroValue0
 t4:=underlying4
 a4:=isAgg4
 z4:=sizeOf4
 v4:=zeroValue4
 t23:=underlying103
 a23:=isAgg103
 z23:=sizeOf103
 v23:=zeroValue103
 t26:=underlying3
 a26:=isAgg3
 z26:=sizeOf3
 v26:=zeroValue3
 t27:=underlying106
 a27:=isAgg106
 z27:=sizeOf106
 v27:=zeroValue106
 t28:=underlying107
 a28:=isAgg107
 z28:=sizeOf107
 v28:=zeroValue107
 t33:=underlying186
 a33:=isAgg186
 z33:=sizeOf186
 v33:=zeroValue186
def aqJ:Go.Shelf.Ren:=⟨fun|6=>175|8=>230|9=>231|11=>252|n=>n,fun|0=>0|24=>46|26=>3|28=>107|33=>186|n=>n,fun n=>n⟩
theorem aHS:Go.Proofs.SlLaysZI.n6 prog aqJ where
 mixed:=by kernel_rfl
 f6:=⟨f175.name,V,func175.trans<|cO some V⟩
 f8:=⟨f230.name,V,func230.trans<|cO some V⟩
 f11:=⟨f252.name,V,func252.trans<|cO some V⟩
 t0:=underlying0
 a0:=isAgg0
 z0:=sizeOf0
 v0:=zeroValue0
 t24:=underlying46
 a24:=isAgg46
 z24:=sizeOf46
 v24:=zeroValue46
 t26:=underlying3
 a26:=isAgg3
 z26:=sizeOf3
 v26:=zeroValue3
 t28:=underlying107
 a28:=isAgg107
 z28:=sizeOf107
 v28:=zeroValue107
 i26:=by kernel_rfl
def aHR:Go.Shelf.Ren:=⟨fun|5=>231|7=>253|8=>254|10=>259|11=>260|12=>261|13=>262|14=>263|15=>264|16=>178|17=>265|18=>266|19=>267|20=>268|30=>274|31=>275|32=>276|33=>277|34=>278|35=>233|40=>280|n=>n,fun|0=>0|3=>3|4=>4|5=>5|9=>9|22=>46|23=>46|25=>3|32=>271|35=>348|36=>349|41=>199|44=>355|46=>357|53=>361|57=>90|63=>366|64=>367|n=>n,fun n=>n⟩
theorem aqI:Go.Proofs.SlLaysM.n5 prog aHR where
 mixed:=by kernel_rfl
 f5:=⟨f231.name,V,func231.trans<|cO some V⟩
 f7:=⟨f253.name,V,func253.trans<|cO some V⟩
 f8:=func254.trans<|cO some V
 f10:=⟨f259.name,V,func259.trans<|cO some V⟩
 f11:=⟨f260.name,V,func260.trans<|cO some V⟩
 f12:=⟨f261.name,V,func261.trans<|cO some V⟩
 f13:=⟨f262.name,V,func262.trans<|cO some V⟩
 f14:=⟨f263.name,V,func263.trans<|cO some V⟩
 f15:=⟨f264.name,V,func264.trans<|cO some V⟩
 f16:=⟨f178.name,V,func178.trans<|cO some V⟩
 f17:=⟨f265.name,V,func265.trans<|cO some V⟩
 f18:=⟨f266.name,V,func266.trans<|cO some V⟩
 f19:=func267.trans<|cO some V
 f20:=func268.trans<|cO some V
 f30:=⟨f274.name,V,func274.trans<|cO some V⟩
 f31:=func275.trans<|cO some V
 f32:=func276.trans<|cO some V
 f33:=⟨f277.name,V,func277.trans<|cO some V⟩
 f34:=⟨f278.name,V,func278.trans<|cO some V⟩
 f35:=⟨f233.name,V,func233.trans<|cO some V⟩
 f40:=⟨f280.name,V,func280.trans<|cO some V⟩
 t0:=underlying0
 a0:=isAgg0
 z0:=sizeOf0
 v0:=zeroValue0
 t3:=underlying3
 a3:=isAgg3
 z3:=sizeOf3
 v3:=zeroValue3
 t4:=underlying4
 a4:=isAgg4
 z4:=sizeOf4
 v4:=zeroValue4
 t5:=underlying5
 a5:=isAgg5
 z5:=sizeOf5
 v5:=zeroValue5
 t9:=underlying9
 a9:=isAgg9
 z9:=sizeOf9
 v9:=zeroValue9
 t22:=underlying46
 a22:=isAgg46
 z22:=sizeOf46
 v22:=zeroValue46
 t23:=underlying46
 a23:=isAgg46
 z23:=sizeOf46
 v23:=zeroValue46
 t25:=underlying3
 a25:=isAgg3
 z25:=sizeOf3
 v25:=zeroValue3
 t32:=underlying271
 a32:=isAgg271
 z32:=sizeOf271
 v32:=zeroValue271
 t35:=underlying348
 a35:=isAgg348
 z35:=sizeOf348
 v35:=zeroValue348
 t36:=underlying349
 a36:=isAgg349
 z36:=sizeOf349
 v36:=zeroValue349
 t41:=underlying199
 a41:=isAgg199
 z41:=sizeOf199
 v41:=zeroValue199
 t44:=underlying355
 a44:=isAgg355
 z44:=sizeOf355
 v44:=zeroValue355
 t46:=underlying357
 a46:=isAgg357
 z46:=sizeOf357
 v46:=zeroValue357
 t53:=underlying361
 a53:=isAgg361
 z53:=sizeOf361
 v53:=zeroValue361
 t57:=underlying90
 a57:=isAgg90
 z57:=sizeOf90
 v57:=zeroValue90
 t63:=underlying366
 a63:=isAgg366
 z63:=sizeOf366
 v63:=zeroValue366
 t64:=underlying367
 a64:=isAgg367
 z64:=sizeOf367
 v64:=zeroValue367
section
open Go.RowKit Go.Maps
theorem ayv:aW 231:=aX func231 M
theorem ayw:aW 232:=aX func232 M
theorem aC0{G:GH}{w:World}(h:Hold G w){b:Nat}(hb:w.heap.size<=b):G b=none:=by
 cases hg:G b with
 |none=>rfl
 |some o=>exact absurd (lt_of_heap<|h b o hg) O
theorem akz{G:GH}{w w':World}(h:Hold G w)(hb:Below w.heap.size w w'){b:Nat}{o:Obj}(hn:w.heap.size<=b)(ho:w'.heap[b]?=some o):Ext w.heap.size G (G.add b o) w':=by
 refine⟨fun k o' hk=>GH.Md G (aC0 h hn) k o' hk,fun k o' hk=>?_,fun k o' hk=>?_⟩
 ·unfold GH.add at hk
  split at hk
  ·rename_i e;exact .inr<|e ▸ hn
  exact .inl hk
 unfold GH.add at hk
 split at hk
 ·rename_i e;rw[e,ho,hk]
 exact(hb.block k<|lt_of_heap<|h k o' hk).trans<|h k o' hk
theorem aEU(G:GH)(w0:World)(hG:Hold G w0)(mb:Option Nat) :
  Calls prog 176 #[.map mb] w0 (bD w0 G fun u G'=>∃bx,u=.func (.func 232) #[] #[aK bx 0]∧G' bx=some (.cells #[.map mb] 103 (0,0))):=by
 have h:CallsIn Fence.wide 5 prog 176 #[.map mb] w0 fun e w'=>e=.returned (.func (.func 232) #[] #[aK w0.heap.size 0])∧w'=w0.alloc (.cells #[.map mb] 103):=AnyZI.keys_in aoe Fence.wide 5 trivial M mb w0;refine((callsIn_wide (n:=5)).1 h).mono ?_;rintro e w' ⟨rfl,rfl⟩;have hb:Below w0.heap.size w0 (w0.alloc (.cells #[.map mb] 103)):=(Below.refl _ w0).alloc (eP _) _;exact⟨_,_,M,hb,akz hG hb (eP _) (show(w0.heap.push _)[w0.heap.size]?=_ by simp),_,M,GH.Jm _ _ _⟩
def KV(_:aj):Option (DataW Unit×List MemPlace):=some (.nil,[])
theorem aFP{w:World}{b clock:Nat}{es:Array MapEntry}{l:List Int}(hb:w.heap[b]?=some (.map es clock))(hs:MapKept.Stamped es clock)(hk:es.toList.map (·.key)=l.map (Value.int .i64))(hw:∀k∈l,-9223372036854775808<=k∧k<9223372036854775808)(hl:l.length<=4294967296) :
  ∃D:DataW Unit,w.ownsMap prog 3 KV b l.length D∧(intKeys D).Perm l∧Maps.size D=l.length:=by
 have hlen:es.size=l.length:=by
  have:=cO List.length hk
  simpa using this
 have hml:maxLen=9223372036854775807:=rfl
 have hr:∀x∈es.toList,∃k∈l,Go.WideElems.rd prog 3 KV x=some (.int .i64 k,.nil):=by
  intro x hx
  have h1:x.key∈l.map (Value.int .i64):=by rw[<-hk];exact List.mem_map_of_mem hx
  obtain⟨k,h2,h3⟩:=List.mem_map.1 h1;obtain⟨h4,h5⟩:=hw k h2
  have hwf:(Lit.int .i64 k).wf=true:=by
   show(decide (IntKind.i64.min<=k)&&decide (k<=IntKind.i64.max))=true
   rw[show IntKind.i64.min=-9223372036854775808 by decide,show IntKind.i64.max=9223372036854775807 by decide]
   simp;omega
  refine⟨k,h2,?_⟩
  unfold Go.WideElems.rd
  rw[<-h3]
  have h6:keyOf prog 3 (.int .i64 k)=some (.int .i64 k):=by
   unfold keyOf mapKey
   rw[underlying3]
   simp[hwf]
  rw[h6]
  rfl
 refine⟨_,⟨es,clock,hb,⟨O,hs,fun x hx=>?_⟩,O,M⟩,?_,?_⟩
 ·obtain⟨k,-,h⟩:=hr x hx;exact⟨_,h⟩
 ·show(((es.toList.map<|Go.WideElems.rg prog 3 KV).foldr DataW.insert []).map fun p=>Go.intOf p.1).Perm l
  refine((Go.WideShapes.sorted_perm _).map _).trans ?_;rw[List.map_map]
  have h1:es.toList.map ((fun p:Lit×DataW Unit=>Go.intOf p.1)∘Go.WideElems.rg prog 3 KV)=l:=by
   have h2:es.toList.map ((fun p:Lit×DataW Unit=>Go.intOf p.1)∘Go.WideElems.rg prog 3 KV)=(es.toList.map (·.key)).map fun v=>match v with|.int _ a=>a|_=>0:=by
    rw[List.map_map];refine List.map_congr_left fun x hx=>?_;obtain⟨k,hkl,h⟩:=hr x hx
    obtain⟨k',h3,h4⟩:∃k',Go.WideElems.rd prog 3 KV x=some (.int .i64 k',.nil)∧x.key=.int .i64 k':=by
     have h5:x.key∈l.map (Value.int .i64):=by rw[<-hk];exact List.mem_map_of_mem hx
     obtain⟨k',h6,h7⟩:=List.mem_map.1 h5;refine⟨k,h,?_⟩;have h8:=Go.WideElems.rd_key h;obtain⟨z,h9,h10,-⟩:=Maps.keyOf_i64 underlying3 h8
     cases h10
     exact h9
    simp only[Function.comp,Go.WideElems.rg_of h3,h4,Go.intOf]
   rw[h2,hk,List.map_map]
   simp[Function.comp_def]
  rw[h1]
 show((es.toList.map<|Go.WideElems.rg prog 3 KV).foldr DataW.insert []).length=_
 rw[(Go.WideShapes.sorted_perm _).length_eq,bM,sQ,hlen]
theorem aHU(m:Nat):AnyZI.SortsIn prog aqJ Fence.wide m :=
  ⟨fun blk off cap ss W hH hblk hsz=>callsIn_wide.2 (AnyM.slices_Sort_int aqI blk off cap ss W hH hblk hsz),
   fun p cap W=>callsIn_wide.2<|AnyM.slices_Sort_int_none aqI p cap W⟩
def BO(l:List Int):List Int:=l.mergeSort leI
theorem aHT(G:GH)(w0:World)(hG:Hold G w0)(b bx clock:Nat)(es:Array MapEntry)(l:List Int)(hbx:G bx=some (.cells #[.map<|some b] 103 (0,0)))(hb:w0.heap[b]?=some (.map es clock))(hs:MapKept.Stamped es clock)(hk:es.toList.map (·.key)=l.map (Value.int .i64))
  (hw:∀k∈l,-9223372036854775808<=k∧k<9223372036854775808)(hl:l.length<=4294967296) :
  Calls prog 175 #[.func (.func 232) #[] #[aK bx 0]] w0 (bD w0 G fun u G'=>av G' (.sl 1 ((BO l).map fun k=>[li k])) u):=by
 obtain⟨D0,hown,hperm,hsize⟩:=aFP hb hs hk hw hl;have hml:maxLen=9223372036854775807:=rfl
 have hseq:SeqGives Fence.wide 2 prog 232 #[aK bx 0] encZ (fun ss=>ss.Perm<|intKeys D0) (Maps.size D0) w0 :=
  AnyZI.keys_gives (ρ:=aof) { aoe with } Fence.wide _ trivial M O bx b l.length D0 _ (lt_of_heap<|hG _ _ hbx) (by simp[World.cell?,hG _ _ hbx]) hown
 have cS:=AnyZI.sorted_in aHS Fence.wide 5 trivial trivial trivial trivial M O (aHU _) ayv 232 #[aK bx 0] trivial ayw _ _ O O _ hseq
 change CallsIn _ _ prog 175 _ _ _ at cS
 refine((callsIn_wide (n:=5)).1 cS).mono ?_;rintro e w' ⟨v,ss,rfl,hS,hrow,-,hbel⟩;have hS2:ss.mergeSort (fun x y=>decide<|x<=y)=BO l:=mergeSort_of_perm_i<|hS.trans hperm;rw[hS2]at hrow
 have hlen:ss.length=(BO l).length:=by rw[BO,List.length_mergeSort,hS.length_eq,hperm.length_eq]
 have gK:∀(G1:GH)(xs:List Int),bR G1 1 (xs.map fun k=>[li k]) (xs.map encZ):=by
  intro G1 xs
  induction xs with
  |nil=>exact bR.nil
  |cons x xs ih=>
   have h8:=((bR.nil (G:=G1) (sz:=1)).snoc (q:=[li x]) (cs:=[encZ x]) (by simp[bg,av,li,Value.oneCell']) M).append ih
   simpa using h8
 rcases hrow.2 with⟨rfl,hz⟩|⟨gb,cap,cur,rfl,hbase,hgb,r1,r2,r3,r4⟩
 ·refine⟨_,G,M,hbel,⟨fun _ _ h=>h,fun _ _ h=>.inl h,fun k o hk=>(hbel.block k<|lt_of_heap<|hG k o hk).trans<|hG k o hk⟩,?_⟩;rw[List.eq_nil_of_length_eq_zero (by omega:(BO l).length=0)]
  simp only[av]
  exact agb
 exact⟨_,_,M,hbel,akz hG hbel hbase hgb,av.uK (GH.Jm G gb _) (by simp[hlen]) r1 r2 (by simpa using r4)<|gK _ _⟩
end
section
abbrev jR(l:List Int):List (Int×aj):=l.map fun q=>(q,.bool true)
theorem aqC(l:List Int):(jR l).map (·.1)=l:=by rw[List.map_map];simp[Function.comp_def]
theorem aHr(l r:List Int):jR (l++r)=jR l++jR r:=iy
theorem acU:∀(i:Nat)(l:List (Int×aj)),(jB i l).map (·.key)=l.map fun x=>Value.int .i64 x.1
 |_,[]=>rfl
 |i,(k,v)::r=>by rw[jB,dV,dV,acU (i+1) r]
theorem acT:∀(i:Nat)(l:List (Int×aj)),(jB i l).map (·.born)=List.range' i l.length
 |_,[]=>rfl
 |i,(k,v)::r=>by rw[jB,dV,acT (i+1) r];rfl
theorem aow:∀(i n:Nat)(l:List (Int×aj)),(jB i l)[n]?=(l[n]?).map fun x=>⟨.int .i64 x.1,x.2,i+n⟩
 |_,_,[]=>rfl
 |i,0,(k,v)::r=>rfl
 |i,n+1,(k,v)::r=>by rw[jB,List.getElem?_cons_succ,List.getElem?_cons_succ,aow (i+1) n r,show i+1+n=i+(n+1) by omega]
theorem aET{l:List (Int×aj)}(h:(l.map (·.1)).Nodup):MapKept.Stamped (jB 0 l).toArray l.length:=by
 refine⟨fun x hx=>?_,?_,?_⟩
 ·have h1:=List.mem_map_of_mem (f:=(·.born)) hx
  rw[acT]at h1
  have:=List.mem_range'_1.1 h1
  omega
 ·show((jB 0 l).map (·.born)).Nodup
  rw[acT];exact List.nodup_range'
 ·show((jB 0 l).map (·.key)).Nodup
  rw[acU,show(fun x:Int×aj=>Value.int .i64 x.1)=Value.int .i64∘(·.1)from rfl,<-List.map_map]
  exact List.pairwise_map.2 (h.imp fun hne e=>hne (by injection e))
theorem aaQ(x:Int):∀(i j:Nat)(l:List Int),∃an,Instr.findNow (.int .i64) (.int .i64 x) (jB i<|jR l) j=some an∧((x∈l∧∃n,an=some (j+n,.bool true)∧l[n]?=some x)∨(x∉l∧an=none))
 |_,_,[]=>⟨none,M,.inr ⟨by simp,M⟩⟩
 |i,j,k::r=>by
  by_cases e:k=x
  ·subst e
   exact⟨some (j,.bool true),by simp only[jR,dV,jB,Instr.findNow,Instr.sameNow,ay,beq_self_eq_true],.inl ⟨fJ,0,M,M⟩⟩
  ·have hb:(x==k)=false:=by simp;exact fun h=>e h.symm
   obtain⟨an,h1,h2⟩:=aaQ x (i+1) (j+1) r
   refine⟨an,by simpa only[jR,dV,jB,Instr.findNow,Instr.sameNow,ay,hb]using h1,?_⟩
   rcases h2 with⟨h3,n,h4,h5⟩|⟨h3,h4⟩
   ·exact .inl ⟨gH _ h3,n+1,by rw[h4,show j+1+n=j+(n+1) by omega],h5⟩
   ·exact .inr ⟨fun h=>(iL.1 h).elim (fun h=>e h.symm) h3,h4⟩
theorem acV{α β:Type}(f:α->β):∀(l:List α)(j:Nat),(l.eraseIdx j).map f=(l.map f).eraseIdx j
 |[],_=>rfl
 |x::l,0=>rfl
 |x::l,j+1=>by rw[List.eraseIdx_cons_succ,dV,dV,List.eraseIdx_cons_succ,acV f l j]
def zI(l:List Int)(x:Int):List Int:=if x∈l then l else l++[x]
theorem atp{l:List Int}{x y:Int}:y∈zI l x↔y∈l∨y=x:=by
 unfold zI
 split
 ·rename_i h
  exact⟨.inl,fun h2=>h2.elim id fun e=>e ▸ h⟩
 ·simp
theorem atq{l:List Int}{x:Int}(h:l.Nodup):(zI l x).Nodup:=by
 unfold zI
 split
 ·exact h
 ·rename_i hx
  exact List.nodup_append.2 ⟨h,List.pairwise_singleton _ _,fun a ha b hb e=>hx (by rw[oH]at hb;rw[<-hb,<-e];exact ha)⟩
section
variable{N:Nat}{D:List Deferred}{w0:World}{F:Nat->Prop}{G0 G:GH}{L:OL}{T:List (Nat×aj)}
variable{r:Option Nat}{P:Program}{ops:Array Oper}{Q:Exit->Act->World->Prop}{rest:List Oper}{a:Act}{w:World}
variable{d:Nat}{ty:TypeId}{pos:String}{aT:Array Edge}{g:Option (Nat×Bool)}
theorem adQ{t kt et:TypeId}{x y z:Operand}{b i:Nat}{l:List Int}{ky:Int}(hm:P.underlying t=some (.map kt et))(hk:P.underlying kt=some (.int .i64))(H:St N D w0 F G0 G L T a w)
  (hw:Region.wanted ⟨none,.mapUpdate t x y z,ty,pos,aT,g⟩ (yielded ops a.tmps)=true)(hx:ev T x=some (.map<|some b))(hy:ev T y=some (.int .i64 ky))(hzv:ev T z=some (.bool true))(hi:L[i]?=some (b,gG<|jR l))
  (k:∀w',St N D w0 F G0 G (L.set i (b,gG<|jR<|zI l ky)) T a w'->WL r P ops Q rest a w'):WL r P ops Q (⟨none,.mapUpdate t x y z,ty,pos,aT,g⟩::rest) a w:=by
 obtain⟨an,hf,han⟩:=aaQ ky 0 0 l
 rcases han with⟨hm2,n,rfl,hn⟩|⟨hm2,rfl⟩
 ·have hkey:MapKept.IsKey (.int .i64) (.int .i64 ky):=by trivial
  have hb:w.heap[b]?=some (.map (jB 0<|jR l).toArray (jR l).length):=H.hp.own _<|lZ hi
  have h1:=MapKept.run_checkKey (P:=P) (w:=w) hk hkey false 9999
  have h2:=MapKept.run_findKey (P:=P) (w:=w) (l:=(jB 0<|jR l).toArray.toList) hk (by simpa using hf)
  have h3:=MapKept.run_keyThatStays (P:=P) (w:=w) hkey
  have hgn:(jB 0<|jR l)[n]?=some ⟨.int .i64 ky,.bool true,0+n⟩:=by
   rw[aow];unfold jR;rw[ql,hn];rfl
  have hg:((jB 0<|jR l).toArray[n]?.map (·.key)).getD (.int .i64 ky)=.int .i64 ky:=by
   rw[List.getElem?_toArray,hgn];rfl
  have hmod:(jB 0<|jR l).toArray.modify n (fun e=>{ e with key:=.int .i64 ky,val:=.bool true })=(jB 0<|jR l).toArray:=by
   apply Array.ext_getElem?
   intro j
   rw[Array.getElem?_modify]
   by_cases hij:n=j
   ·subst hij
    rw[ay M,List.getElem?_toArray,hgn];rfl
   ·rw[au hij]
  have ha:zI l ky=l:=by unfold zI;rw[ay hm2]
  rw[ha]at k
  refine Xz (w':={ w with heap:=w.heap.setIfInBounds b (gG<|jR l) }) hw M ?_<|k _<|H.move<|H.hp.upd hi<|Xv hb
  show(execOp a.eval _).run P w=.ok _ { w with heap:=w.heap.setIfInBounds b (.map (jB 0<|jR l).toArray (jR l).length) }
  generalize(jB 0<|jR l).toArray=es at hb h2 hg hmod|-
  simp[execOp,Instr.mapUpdate,H.ev hx,H.ev hy,H.ev hzv,dP,lV hm,MapKept.run_getObj_map hb,h1,h2,hg,h3,hmod,MapKept.run_setObj_map _ hb,Result.andThen]
 ·refine R7 hm hk H hw hx hy hzv hi (RJ (by rw[aqC];exact hm2)) fun w' H'=>k w' ?_
  have ha:zI l ky=l++[ky]:=by unfold zI;rw[au hm2]
  rw[ha,aHr]
  exact H'
theorem aG0{t kt et:TypeId}{x y:Operand}{b i:Nat}{l:List Int}{ky:Int}(hm:P.underlying t=some (.map kt et))(hk:P.underlying kt=some (.int .i64))(hnd:l.Nodup)(H:St N D w0 F G0 G L T a w)
  (hw:Region.wanted ⟨none,.call { callee:=.builtin .delete,args:=#[x,y],argTypes:=#[t,kt] },ty,pos,aT,g⟩ (yielded ops a.tmps)=true)(hx:ev T x=some (.map<|some b))(hy:ev T y=some (.int .i64 ky))(hi:L[i]?=some (b,gG<|jR l))
  (k:∀es clock w',MapKept.Stamped es clock->es.toList.map (·.key)=(l.filter fun q=>decide<|q≠ky).map (Value.int .i64)->St N D w0 F G0 G (L.set i (b,.map es clock)) T a w'->WL r P ops Q rest a w'):WL r P ops Q (⟨none,.call { callee:=.builtin .delete,args:=#[x,y],argTypes:=#[t,kt] },ty,pos,aT,g⟩::rest) a w:=by
 obtain⟨an,hf,han⟩:=aaQ ky 0 0 l
 have hkey:MapKept.IsKey (.int .i64) (.int .i64 ky):=by trivial
 have hb:w.heap[b]?=some (.map (jB 0<|jR l).toArray (jR l).length):=H.hp.own _<|lZ hi
 have hst:=aET (l:=jR l) (by rw[aqC];exact hnd)
 have hks:(jB 0<|jR l).toArray.toList.map (·.key)=l.map (Value.int .i64):=by
  show(jB 0<|jR l).map (·.key)=_
  rw[acU,List.map_map];rfl
 have h2:=fun es':Array MapEntry=>Xv (o:=.map es' (jR l).length) hb
 have h3:=MapKept.run_findKey (P:=P) (w:=w) (l:=(jB 0<|jR l).toArray.toList) hk (by simpa using hf)
 rcases han with⟨hm2,n,rfl,hn⟩|⟨hm2,rfl⟩
 ·have hnl:n<l.length:=(jJ.1 hn).1
  have hln:l[n]=ky:=(jJ.1 hn).2
  have hsz:n<(jB 0<|jR l).toArray.size:=by
   have:=cO List.length hks
   simp at this
   simp;omega
  have aCg:((jB 0<|jR l).toArray.eraseIdxIfInBounds n).toList=(jB 0<|jR l).toArray.toList.eraseIdx n:=by
   unfold Array.eraseIdxIfInBounds
   rw[dif_pos hsz]
   simp
  refine fH (v:=.tuple #[]) (w':={ w with heap:=w.heap.setIfInBounds b (.map ((jB 0<|jR l).toArray.eraseIdxIfInBounds n) (jR l).length) }) hw M ?_
   (k _ _ _ (MapKept.stamped_erase hst n) ?_<|H.move<|H.hp.upd hi<|h2 _)
  ·generalize(jB 0<|jR l).toArray=es at hb h3|-
   have h1:=MapKept.run_checkKey (P:=P) (w:=w) hk hkey es.isEmpty 9999
   simp[execOp,resolve,invoke,builtin,Builtin.delete_,H.ev hx,H.ev hy,dP,lV hm,MapKept.run_getObj_map hb,h1,h3,MapKept.run_setObj_map _ hb,Result.andThen]
  ·rw[aCg,acV,hks,<-acV]
   congr 1
   have he:l.erase ky=l.eraseIdx n:=by
    have:=hnd.idxOf_getElem n hnl
    rw[hln]at this
    rw[<-this];exact List.erase_eq_eraseIdx_of_idxOf M
   rw[<-he,hnd.erase_eq_filter]
   exact List.filter_congr fun x _=>by by_cases h:x=ky<;>simp[h]
 ·refine fH (v:=.tuple #[]) (w':={ w with heap:=w.heap.setIfInBounds b (.map (jB 0<|jR l).toArray (jR l).length) }) hw M ?_<|k _ _ _ hst ?_<|H.move<|H.hp.upd hi<|h2 _
  ·generalize(jB 0<|jR l).toArray=es at hb h3|-
   have h1:=MapKept.run_checkKey (P:=P) (w:=w) hk hkey es.isEmpty 9999
   simp[execOp,resolve,invoke,builtin,Builtin.delete_,H.ev hx,H.ev hy,dP,lV hm,MapKept.run_getObj_map hb,h1,h3,MapKept.run_setObj_map _ hb,Result.andThen]
  ·rw[hks,List.filter_eq_self.2 fun x hx=>kZ (show¬x=ky from fun e=>hm2<|e ▸ hx)]
end
end

theorem ajU:aW 173:=aX func173 M
theorem axG:aW 176:=aX func176 M
theorem axF:aW 175:=aX func175 M
def refs(h:fI):List Int:=h.marks.ins::(h.marks.dQ.map kS.rev++h.marks.layers.map ku.rev)
def uP(K l:List Int):List Int:=l.foldl zI K
theorem Td(K l r:List Int):uP K (l++r)=uP (uP K l) r:=List.foldl_append
theorem Yp{l:List Int}:∀{K:List Int}{y:Int},y∈uP K l↔y∈K∨y∈l:=by
 induction l with
 |nil=>intro K y;simp[uP]
 |cons x l ih=>
  intro K y
  show y∈uP (zI K x) l↔_
  rw[ih,atp,iL,or_assoc]
theorem aeY{l:List Int}:∀{K:List Int},K.Nodup->(uP K l).Nodup:=by
 induction l with
 |nil=>intro K h;exact h
 |cons x l ih=>intro K h;exact ih<|atq h
theorem atr{K:List Int}{x:Int}{α:Type}{f:α->Int}{A:List α}{k:Nat}(hk:k<A.length):zI (uP K (x::(A.take k).map f)) (f A[k])=uP K (x::(A.take<|k+1).map f):=by
 rw[ji hk,iy,<-jl,Td];rfl
theorem att{K B:List Int}{x:Int}{α:Type}{f:α->Int}{A:List α}{k:Nat}(hk:k<A.length):zI (uP K (x::(B++(A.take k).map f))) (f A[k])=uP K (x::(B++(A.take<|k+1).map f)):=by
 rw[ji hk,iy,show x::(B++((A.take k).map f++[A[k]].map f))=(x::(B++(A.take k).map f))++[f A[k]]from by simp,Td];rfl
abbrev EJ(b3 bm:Nat)(K:List Int):OL:=[(b3,.cells #[.map (some bm)] 103 (0,0)),(bm,gG (jR K))]
set_option maxHeartbeats 2000000 in
theorem apf(G:GH)(w0:World)(b3 bm:Nat)(K:List Int)(h:fI)(p d y:Option Addr×Nat×Nat)(hR:kr G h (bN p) (bN d) (bN y))(hO:fZ G (EJ b3 bm K) w0) :
  Calls prog 173 #[.agg #[bN p,vi h.marks.ins,vi h.marks.move,bN d,bN y],aK b3 0] w0 (fG w0 G (EJ b3 bm K) fun _ G' L'=>L'=EJ b3 bm (uP K<|refs h)):=by
 obtain⟨dA,dn,dc⟩:=d;obtain⟨yA,yn,yc⟩:=y;have hml:maxLen=9223372036854775807:=rfl;have hd:=hR.dQ;have hy:=hR.layers;dsimp only[bN]at hd hy;have e1:=hd.len;have e2:=hy.len;rw[bM]at e1 e2;subst e1 e2;obtain⟨_,_,hu1,hd1,hd2,-⟩:=hd.slice;obtain⟨_,_,hu2,hy1,hy2,-⟩:=hy.slice
 injection hu1 with q1 q2 q3
 subst q1 q3
 injection hu2 with q1 q2 q3
 subst q1 q3;rw[bM]at hd1 hy1;refine iY (N:=35) (T:=[(0,_),(1,_)]) func173 M ntmps173 M M hO fun a H=>dw<|fun _ K1=>eD (cs:=[_,_,_,_,_]) H wn M M M fun b2 a w hb2 H=>K1 _ _<|kP H<|SR fun _ K1=>Ro vY 1 M<|Rf xP M<|aV Bl aF 0 M M fun a H=>adQ (i:=2) AL oU H wn M M M M ?_;clear H;intro w H;dsimp only[List.set]at H;refine K1 _ _<|kP H<|SQ fun _ K1=>SR fun _ K2=>Rf xP M<|aV Bn BR 0 M M<|Rl uM M<|Rm M<|Kz K2<|SB ?_;clear H K2;intro a H;skip;refine dY (ι:=Nat) (Tc:=[(1,_),(2,_),(13,_),(14,_)]) (Lc:=[(_,_),(_,_)]) (fun gh=>[(15,vi gh)]) (fun gh=>[(bm,gG<|jR<|uP K (h.marks.ins::(h.marks.dQ.take gh).map kS.rev))]) (fun gh=>G) (fun gh=>gh<=h.marks.dQ.length) (fun gh=>h.marks.dQ.length-gh) (0) (by exact H.sub ⟨M,M,M,M,M,aC⟩) ?_ ?_
 ·exact Pn
 clear H;intro i a w hI H;have hi:=hI;dsimp only[lca,bq]at H;refine kP H (SR fun _ K2=>Rc M<|Kz K2<|SQ fun _ K3=>Cd M ?_ ?_)<;>clear H K2
 ·intro h16 a H
  try have p16:=dT h16
  have hi2:i<h.marks.dQ.length:=by omega
  obtain⟨b,o,rfl,hrow⟩:=aai hd hi2;refine kP H<|Kc K3<|SQ fun _ K2=>SB<|SR fun _ K4=>Ri uM vZ M M fun a H=>aY vZ (cs:=[_,_]) H wn M M (fun j v hj=>H.hp.aJ<|hrow j v hj) M fun a H=>dK vZ H wn M fun b4 a w hb4 H=>bH vZ 0 (vs:=[_,_]) H wn M fun w H=>K4 _ _<|kP H<|SC<|Ro vY 2 M<|aV MQ aF 0 M M fun a H=>adQ (i:=3) AL oU H wn M M M M ?_;clear H;intro w H;dsimp only[List.set]at H;rw[atr hi2]at H;refine kH H (Kn K2 (SC (Rd M (Rm M fun a H=>aI (dO (i+1) (by exact(H.dR (Pl:=[_,_,_,_]) (dH:=[_,_,_]) [1,2,3] Z M).sub ⟨M,M,M,M,M,aC⟩) ?_)))))
  omega
 intro h16 a H
 try have p16:=dF h16
 obtain rfl:i=h.marks.dQ.length:=by omega
 rw[oI]at H;refine dS<|K1 _ _<|kP H<|SR fun _ K1=>Rf xP M<|aV Hz IV 0 M M<|Rl wZ M<|Rm M<|Kz K1<|SB ?_;clear H K1;intro a H;skip;refine dY (ι:=Nat) (Tc:=[(1,_),(25,_),(26,_)]) (Lc:=[(_,_),(_,_)]) (fun gh=>[(27,vi gh)]) (fun gh=>[(bm,gG<|jR<|uP K (h.marks.ins::(h.marks.dQ.map kS.rev++(h.marks.layers.take gh).map ku.rev)))]) (fun gh=>G) (fun gh=>gh<=h.marks.layers.length) (fun gh=>h.marks.layers.length-gh) (0) (by exact(by rw[List.take_zero,ug,iR];exact(H.sub ⟨M,M,M,M,aC⟩))) ?_ ?_
 ·exact Pn
 clear H;intro k a w hI H;have hk:=hI;dsimp only[lca,bq]at H;refine kP H (SR fun _ K1=>Rc M<|Kz K1<|SQ fun _ K2=>Cd M ?_ ?_)<;>clear H K1
 ·intro eZ a H
  try have p28:=dT eZ
  have hk2:k<h.marks.layers.length:=by omega
  obtain⟨b,o,rfl,hrow⟩:=acN hy hk2;refine kP H<|Kc K2<|SQ fun _ K1=>SB<|SR fun _ K4=>Ri wZ wh M M fun a H=>aY wh (cs:=[_,_,_,_]) H wn M M (fun j v hj=>H.hp.aJ<|hrow j v hj) M fun a H=>dK wh H wn M fun b6 a w hb6 H=>bH wh 0 (vs:=[_,_,_,_]) H wn M fun w H=>K4 _ _<|kP H<|SC<|Ro vY 2 M<|aV akO aF 0 M M fun a H=>adQ (i:=3) AL oU H wn M M M M ?_;clear H;intro w H;dsimp only[List.set]at H;rw[att hk2]at H;refine kH H (Kn K1 (SC (Rd M (Rm M fun a H=>aI (dO (k+1) (by exact(H.dR (Pl:=[_,_,_,_]) (dH:=[_,_,_]) [1,2,3] Z M).sub ⟨M,M,M,M,aC⟩) ?_)))))
  omega
 intro eZ a H
 try have p28:=dF eZ
 obtain rfl:k=h.marks.layers.length:=by omega
 rw[oI]at H;refine dS ((leave0 H results173 ?_).2);exact H.hp.lU (L':=EJ b3 bm _) (by repeat(first|exact nW _|apply List.Sublist.cons)) M
def Od(d:jq):List Int:=(pJ d.flow).flatMap refs++refs d.fin
def tY(d:jq):List Int:=(uP [] (Od d)).filter fun q=>decide (q≠0)
theorem aFD{G:GH}{b3 bm:Nat}{hs:List fI}:SF prog (.func (.func 173) #[] #[aK b3 0]) G (hs.map Ke) fun k _ L=>L=EJ b3 bm (uP [] ((hs.take k).flatMap refs)):=by
 rintro k args G1 L w ⟨p,hp,h⟩ hG rfl hO;rw[ql]at hp;obtain⟨x,hx,rfl⟩:=nK.1 hp;obtain⟨q1,q2,q3,rfl,hR⟩:=h;obtain⟨hk,rfl⟩:=jJ.1 hx;refine kJ (caps:=[aK b3 0]) ajU ((apf G1 w b3 bm _ hs[k] q1 q2 q3 hR hO).mono ?_);rintro e w' ⟨v,G',L',rfl,hc,rfl⟩;exact⟨v,G',_,M,hc,by show EJ b3 bm _=EJ b3 bm (uP [] ((hs.take<|k+1).flatMap refs));rw[ji hk,List.flatMap_append,Td];simp⟩
theorem awN(G:GH)(w0:World)(hG:Hold G w0)(D:jh)(d:jq)(hR:lH G D d)(hz:aR d.flow<=4294967296)(hw:∀k∈tY d,-9223372036854775808<=k∧k<9223372036854775808)(hl:(tY d).length<=4294967296) :
  Calls prog 100 #[D.val] w0 (bD w0 G fun u G'=>av G' (.sl 1 ((BO<|tY d).map fun k=>[li k])) u):=by
 refine eN [(0,_)] func100 M ntmps100 M M hG fun a H=>dw<|fun _ K1=>eD (cs:=[_,_,_,_,_,_,_,_,_,_,_]) H wn M M M fun b1 a w hb1 H=>kH H<|ak K1 M<|SQ fun _ K2=>?_;clear H K1;intro a H;obtain⟨Ga,hma,hb1',HQ⟩:=H.eX;clear H;have H:=HQ;clear HQ;have hga:=fun j v hj=>lQ hb1' 0 D.cells M j v hj
 have hgd:∀j v,[bN D.p,vi d.fin.marks.ins,vi d.fin.marks.move,bN D.d,bN D.y][j]?=some v->aJ Ga b1 (1+j)=some v:=fun j v hj=>by rw[<-hR.ins,<-hR.mv]at hj;exact lQ hb1' 1 [bN D.p,vi D.ins,vi D.move,bN D.d,bN D.y] M j v hj
 replace hR:=hR.mono hma;refine mF (IL H wn M fun b5 a w hb5 H=>dK vY H wn M fun b3 a w hb3 H=>bH vY 0 (vs:=[_]) H wn M fun w H=>aI (K2 _ _ (dw (fun _ K1=>wU H wn M M (ak K1 M (SR fun _ K2=>Rf wH M (Rg eG M (hga 0 _ M) (Rm M fun a H=>gM aaq (Li:=[]) (L:=EJ b3 b5 []) H wn M (amm 4294967297 O _ Ga ((pJ d.flow).map Ke) (fun k _ L=>L=EJ b3 b5 (uP [] (((pJ d.flow).take k).flatMap refs))) Ga _ _ 0 d.flow _ (fun _ _ h=>h) aFD (fun _ _ _ _ _ h=>h) M (Hp.owns (Li:=[]) H.hp) hR.fl O (fun i a h=>by rw[fB,ql,h];rfl)) rfl ?_))))))));rintro v10 sN L10 a w rfl uw H;rw[fB,oI]at H;dsimp only[List.nil_append]at H;refine K2 _ _<|kP H<|SR fun _ K1=>Rm M<|Rf MV M fun a H=>aY oC (cs:=[bN D.p,vi d.fin.marks.ins,vi d.fin.marks.move,bN D.d,bN D.y]) H wn M M (fun j v hj=>H.hp.aJ<|aH uw<|hgd j v hj) M fun a H=>BM (Li:=[]) (L:=EJ b3 b5 _) H wn M M (kJ (caps:=[aK b3 0]) ajU<|apf _ _ b3 b5 _ d.fin D.p D.d D.y (hR.hd.mono uw)<|Hp.owns (Li:=[]) H.hp) M ?_;rintro v14 DR L14 a w rfl Bv H;rw[<-Td]at H;dsimp only[List.nil_append]at H;refine K1 _ _<|kP H<|SR fun _ K1=>Ro vY 0 M fun a H=>aG0 (i:=1) AL oU (aeY List.nodup_nil) H wn M M M ?_;intro es clock w hst hks H;dsimp only[List.set]at H;refine K1 _ _<|kP H<|SR fun _ K1=>Ro vY 0 M fun a H=>s_call axG H wn M (aEU _ _ H.ro _) M ?_;rintro v17 DT a w ⟨bx,rfl,hbx⟩ xX H;refine s_call axF H wn M (aHT _ _ H.ro b5 bx clock es (tY d) hbx (H.hp.own (b5,.map es clock) (by simp)) hst hks hw hl) M ?_;rintro v18 OU a w VL hm18 H;exact kH H<|ak K1 M<|LR results100 M fun H=>H.rt VL
end Go.Proofs.YtdgnnpjijhafaaaGreat
