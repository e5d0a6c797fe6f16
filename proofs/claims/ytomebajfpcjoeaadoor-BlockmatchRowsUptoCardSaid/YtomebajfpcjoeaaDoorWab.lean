/-
  What the claim stands on, part 2: Bst Spn Cls Mac Val U8 Rg Gcl Pts Fnd Wrd Ro Tok Seg De Dj Sgc Txs Utf3 Cy Slc Eq Mp.
-/
import Derived.Test.YtomebajfpcjoeaaDoorWaa
import Derived.Test.YtomebajfpcjoeaaDoorProg
import Derived.Test.YtomebajfpcjoeaaDoorChecked
import Derived.KernelRfl
import Derived.Shelf.Unicode.ValidAny
import Derived.Lib.BufferWrite
import Derived.Laws.StructEq
import Derived.ChangeKeysEq
import Derived.MapKept
namespace Go.Proofs.YtomebajfpcjoeaaDoor
set_option linter.all false
open Go.Proofs.Tryd
open Go.RowKit
theorem fF:prog.follows .mixedOrders=true:=by kernel_rfl
theorem nK:Ty prog 44 1 24 [.slice none 0 0] false:=⟨Z,Z⟩
theorem bI:Ty prog 46 1 24 [.slice none 0 0] false:=⟨Z,Z⟩
theorem aG:Ty prog 3 1 8 [.int .i64 0] false:=⟨Z,Z⟩
theorem gI:prog.underlying 44=some (.slice 46):=by kernel_rfl
theorem bP:prog.underlying 46=some (.slice 3):=by kernel_rfl
theorem Yq:bD 33:=bH func33 O
def eF (k:Int):List Dat:=[li k]
theorem F3 {p:Prop} (h:p:=by
 exact ⟨_,_,O,by simp [ay,Value.oneCell'],O⟩):p:=h
theorem nZ (G:GH) (k:Int):aT G (eF k) [vi k]:=by
 simp only [eF,aT]
 exact F3
theorem Gy {p:Prop} (h:p:=by
 obtain ⟨v1,_,rfl,⟨rfl,-⟩,rfl⟩:=h
 rfl):p:=h
theorem acM {G:GH} {k:Int} {cs:List aj} (h:aT G (eF k) cs):cs=[vi k]:=by
 simp only [eF,aT,ay] at h
 exact Gy
def jF (r:List Int):List Dat:=[.sl 1 (r.map eF)]
theorem mO {G:GH} {r:List Int} {A:Option Addr} {n c k:Nat} (hv:ay G (.sl 1 (r.map eF)) (.slice A n c)) (hk:k < r.length):∃ b o,A=some ⟨b,o,none⟩∧aQ G b (o+k*1)=some (vi r[k]):=by
 obtain ⟨A',c',he,_,_,hg⟩:=hv.slice
 injection he with e1 e2 e3
 subst e1;obtain ⟨b,o,cs,h1,h2,h3,h4⟩:=hg k (eF r[k]) (by simp [hk]);obtain rfl:=acM h4;exact ⟨b,o,h1,h3 0 _ O⟩
theorem tX {G:GH} {S:List (List Int)} {A:Option Addr} {n c i:Nat} (hv:ay G (.sl 1 (S.map jF)) (.slice A n c)) (hi:i < S.length):∃ b o bA bc,A=some ⟨b,o,none⟩∧aQ G b (o+i*1)=some (.slice bA S[i].length bc)∧ay G (.sl 1 (S[i].map eF)) (.slice bA S[i].length bc):=by
 obtain ⟨A',c',he,_,_,hg⟩:=hv.slice
 injection he with e1 e2 e3
 subst e1;obtain ⟨b,o,cs,h1,h2,h3,h4⟩:=hg i (jF S[i]) (by simp [hi])
 simp only [jF,aT] at h4
 obtain ⟨v,_,rfl,h5,rfl⟩:=h4;obtain ⟨bA,bn,bc,rfl⟩:=h5.form;obtain ⟨_,_,IL,-⟩:=h5.slice;obtain ⟨-,hn,-⟩:=Value.slice.inj IL;rw [bG] at hn;subst hn;exact ⟨b,o,bA,bc,h1,h3 0 _ O,h5⟩
def aP (S:List (List Int)) (i k:Nat):Int:=(S.getD i []).getD k 0
theorem zF {S:List (List Int)} {i k:Nat} (hi:i < S.length) (hk:k < S[i].length):aP S i k=S[i][k]:=by
 simp [aP,List.getD,hi,hk]
def tot (s:Nat->Nat->Int) (n m i k:Nat):Int :=
 if h:i < n∧k < m then max (max (tot s n m (i+1) k) (tot s n m i (k+1))) (if s i k < 400 then -1 else s i k+tot s n m (i+1) (k+1)) else 0
termination_by (n - i)+(m - k)
theorem KD {s:Nat->Nat->Int} {n m i k:Nat} (hi:i < n) (hk:k < m):tot s n m i k=max (max (tot s n m (i+1) k) (tot s n m i (k+1))) (if s i k < 400 then -1 else s i k+tot s n m (i+1) (k+1)):=by
 rw [tot,dif_pos ⟨hi,hk⟩]
theorem zP {s:Nat->Nat->Int} {n m i k:Nat} (h:¬ (i < n∧k < m)):tot s n m i k=0:=by rw [tot,dif_neg h]
theorem zO {s:Nat->Nat->Int} {n m:Nat} (hs:∀ i k,i < n->k < m->s i k<=1000):∀ (q i k:Nat),(n - i)+(m - k)<=q->0<=tot s n m i k∧tot s n m i k<=1000*((n - i:Nat):Int)
 | 0,i,k,h=>by rw [zP V];omega
 | q+1,i,k,h=>by
  by_cases hik:i < n∧k < m
  ·rw [KD hik.1 hik.2];have h1:=zO hs q (i+1) k V;have h2:=zO hs q i (k+1) V;have h3:=zO hs q (i+1) (k+1) V;have h4:=hs i k hik.1 hik.2
   split <;> omega
  rw [zP hik];omega
structure fD where
 a:Int
 b:Int
 score:Int
def fD.dat (x:fD):List Dat:=[li x.a,li x.b,li x.score]
theorem CV {p:Prop} (h:p:=by
 exact ⟨_,_,O,by simp [ay,Value.oneCell'],_,_,O,by simp [ay,Value.oneCell'],_,_,O,by simp [ay,Value.oneCell'],O⟩):p:=h
theorem SF (G:GH) (x:fD):aT G x.dat [vi x.a,vi x.b,vi x.score]:=by
 simp only [fD.dat,aT]
 exact CV
theorem Dg {p:Prop} (h:p:=by
 obtain ⟨v1,_,rfl,⟨rfl,-⟩,v2,_,rfl,⟨rfl,-⟩,v3,_,rfl,⟨rfl,-⟩,rfl⟩:=h
 rfl):p:=h
theorem acs {G:GH} {x:fD} {cs:List aj} (h:aT G x.dat cs):cs=[vi x.a,vi x.b,vi x.score]:=by
 simp only [fD.dat,aT,ay] at h
 exact Dg
def qQ (s:Nat->Nat->Int) (n m i k:Nat):Int:=if s i k < 400 then -1 else s i k+tot s n m (i+1) (k+1)
def jf (s:Nat->Nat->Int) (n m i k:Nat):List fD :=
 if h:i < n∧k < m then
  if tot s n m i k=qQ s n m i k then ⟨i,k,s i k⟩ :: jf s n m (i+1) (k+1)
  else if tot s n m i k=tot s n m (i+1) k then jf s n m (i+1) k else jf s n m i (k+1)
 else []
termination_by (n - i)+(m - k)
theorem Ai (s:Nat->Nat->Int) (n m:Nat):∀ (q i k:Nat),(n - i)+(m - k)<=q->(jf s n m i k).length<=n - i
 | 0,i,k,h=>by rw [jf,dif_neg V];simp
 | q+1,i,k,h=>by
  rw [jf]
  split
  ·rename_i hik
   split
   ·have:=Ai s n m q (i+1) (k+1) V;simp only [jB];omega
   split
   ·have:=Ai s n m q (i+1) k V;omega
   exact Ai s n m q i (k+1) V
  simp
theorem abW {W i k i' k':Nat} (hk:k < W) (hk':k' < W) (h:i*W+k=i'*W+k'):i=i'∧k=k':=by
 have h1:=ko (· / W) h;have h2:=ko (· % W) h
 have hW:0 < W:=by omega
 have e1:∀ a b:Nat,b < W->(a*W+b) / W=a:=fun a b hb=>by rw [Nat.mul_comm,Nat.mul_add_div hW,Nat.div_eq_of_lt hb,qm]
 have e2:∀ a b:Nat,b < W->(a*W+b) % W=b:=fun a b hb=>by rw [Nat.mul_comm,Nat.mul_add_mod,Nat.mod_eq_of_lt hb]
 simp only [e1 _ _ hk,e1 _ _ hk'] at h1
 simp only [e2 _ _ hk,e2 _ _ hk'] at h2
 exact ⟨h1,h2⟩
structure Ag (G:GH) (bs bt bm bf:Nat) (S:List (List Int)) (m:Nat):Prop where
 sc:∃ A c,aQ G bs 0=some (.slice A S.length c)∧ay G (.sl 1 (S.map jF)) (.slice A S.length c)
 wid:∀ r∈S,r.length=m
 tb:aQ G bt 0=some (.slice (some ⟨bm,0,none⟩) (S.length+1) (S.length+1))
 rows:∀ i,i<=S.length->aQ G bm i=some (.slice (some ⟨bf,i*(m+1),none⟩) (m+1) ((S.length+1)*(m+1) - i*(m+1)))
 small:S.length<=1024∧m<=1024
 ok:∀ i k,i < S.length->k < m->0<=aP S i k∧aP S i k<=1000
theorem Ag.mono {G G':GH} {bs bt bm bf:Nat} {S:List (List Int)} {m:Nat} (h:Ag G bs bt bm bf S m) (hm:∀ b o,G b=some o->G' b=some o):Ag G' bs bt bm bf S m:=by
 obtain ⟨A,c,h1,h2⟩:=h.sc;exact ⟨⟨A,c,aK hm h1,h2.mono hm⟩,h.wid,aK hm h.tb,fun i hi=>aK hm (h.rows i hi),h.small,h.ok⟩
abbrev bF (b:Nat) (fl:List Int):Nat × Obj:=(b,.cells (fl.map vi).toArray 3 (0,0))
theorem pI {fl:List Int} {o:Nat} {z:Int} (h:fl[o]?=some z):(fl.map vi).toArray[o]?=some (vi z):=by simp [h]
theorem Ao {p:Prop} (h:p:=by
 exact yu HT Hb hG hv (fun _ _ _ _ _ h=>h) H O):p:=h
theorem aI {p:Prop} (h:p:=by
 clear H;intro a H;refine aB ⟨O,?_⟩;exact Ao):p:=h
theorem aO {p:Prop} (h:p:=by
 intro av a w G1 _ ah hc hG HT hv;have H:=HT;clear ah;have Hb:=H.full;have H:=Hb;clear hc;refine kH H (Rm O ?_);exact aI):p:=h
theorem lQ {p:Prop} (h:p:=by
 have Hb:=H.full;have H:=Hb;clear hc;refine kH H (Rd O ?_);exact aI):p:=h
theorem AB {p:Prop} (h:p:=by
 have Hb:=H.full;have H:=Hb;clear hc;refine bO bP aG (k+1) H wn O O V V O ?_;exact aI):p:=h
theorem uO {p:Prop} (h:p:=by
 have Hb:=H.full;have H:=Hb;clear hc;refine kH H (Ra O ?_);exact aI):p:=h
theorem CZ {p:Prop} (h:p:=by
 have Hb:=H.full;have H:=Hb;clear hc;refine kH H (Rg bI O (aK hG g1) ?_);exact aI):p:=h
theorem C8 {p:Prop} (h:p:=by
 have Hb:=H.full;have H:=Hb;clear hc;refine bO gI bI (i+1) H wn O O V V O ?_;exact aI):p:=h
set_option maxHeartbeats 1000000 in
theorem Vj {G:GH} {w0:World} {Lx:OL} {bs bt bm bf m i k:Nat} {S:List (List Int)} {fl:List Int} {z:Int} (hT:Ag G bs bt bm bf S m) (hO:jc G (bF bf fl :: Lx) w0) (hi:i < S.length) (hk:k < m) (hz:fl[(i+1)*(m+1)+(k+1)]?=some z) (hzb:0<=z∧z<=10000000) :
  qV prog (.func (.func 33) #[] #[(aD bs 0),(aD bt 0)]) [vi i,vi k] w0 (jd w0 G (bF bf fl :: Lx) fun u G' L'=>u=vi (if aP S i k < 400 then -1 else aP S i k+z)∧L'=bF bf fl :: Lx):=by
 refine rE (caps:=[(aD bs 0),(aD bt 0)]) (args:=[vi i,vi k]) Yq ?_;obtain ⟨A,c,hs1,hs2⟩:=hT.sc;obtain ⟨b,o,bA,bc,rfl,g1,g2⟩:=tX hs2 hi;have hwi:=hT.wid _ (dK hi);obtain ⟨b2,o2,rfl,g3⟩:=mO g2 (show k < S[i].length by omega);have ht:=hT.tb;have hr:=hT.rows (i+1) V;have hok:=hT.ok i k hi hk;have hsm:=hT.small;rw [<- zF hi V] at g3;rw [hwi] at g1 g2;refine lS (N:=32) (T:=[(0,_),(1,_),(2,_),(3,_)]) func33 O ntmps33 O O hO ?_;intro a H;refine kP H (SR fun _ K1=>au K1 O (SQ fun _ K2=>SR fun _ K3=>Rg nK O (by assumption) ?_));clear H K1;intro a H;refine kH H (Rm O (Ri gI bI O O (Rg bI O (by assumption) ?_)));clear H;intro a H;refine kH H (Rm O (Ri bP aG O O (Rg aG O (by assumption) ?_)));clear H;intro a H;refine kH H (Rc O (Kz K3 (Cd O ?_ ?_))) <;> clear H K3
 ·intro dQ a H
  try have jr:=dT dQ
  exact kP H (SR fun _ K1=>au K1 O (LR results33 O fun H=>H.hp.kY ⟨by rw [aM jr],O⟩))
 intro dQ a H
 try have jr:=dF dQ
 refine kI ?_;refine K2 _ _ ?_;clear K2;refine fT (fun _ K1=>?_);have H:=H.sub (T':=[(0,_),(1,_),(2,_),(3,_)]) ⟨O,O,O,O,aH⟩;refine dI fF [[],[],[0,1],[0,1,2],[],ra 0 5,ra 0 6,[],[],[8],[7,8,9],ra 7 4,[],[12],ra 7 7,ra 7 8,ra 0 16,ra 0 17] [] Z [.slice (some ⟨b,o,none⟩) S.length c,vi i,(aD b (o+i*1)),.slice (some ⟨b2,o2,none⟩) m bc,vi k,(aD b2 (o2+k*1)),vi (aP S i k),.slice (some ⟨bm,0,none⟩) (S.length+1) (S.length+1),vi i,vi ((i:Int)+1),(aD bm (0+(i+1)*1)),.slice (some ⟨bf,(i+1)*(m+1),none⟩) (m+1) ((S.length+1)*(m+1) - (i+1)*(m+1)),vi k,vi ((k:Int)+1),(aD bf ((i+1)*(m+1)+(k+1)*1)),vi z,vi (aP S i k+z),vi (aP S i k+z)] H (aF ?_ ?_ ?_ ?_ (aF ?_ ?_ ?_ ?_ (aF ?_ ?_ ?_ ?_ (aF ?_ ?_ ?_ ?_ (gN ?_ (gN ?_ fB)))))) ?_
 ·intro av a w G1 _ ah hc hG HT hv;have H:=HT;clear ah;have Hb:=H.full;have H:=Hb;clear hc;refine kH H (Rg nK O (aK hG hs1) ?_);exact aI
 ·exact aO
 ·intro av a w G1 _ ah hc hG HT hv;have H:=HT;clear ah;have H:=H.ak (hv 0 15 (hc 0 Y) O) O;have H:=H.ak (hv 1 16 (hc 1 Y) O) O;have Hb:=H.full;have H:=Hb;clear hc;refine kH H (Ri gI bI O O ?_);exact aI
 ·intro av a w G1 _ ah hc hG HT hv;have H:=HT;clear ah;have H:=H.ak (hv 2 17 (hc 2 Y) O) O;exact CZ
 ·exact aO
 ·intro av a w G1 _ ah hc hG HT hv;have H:=HT;clear ah;have H:=H.ak (hv 3 18 (hc 3 Y) O) O;have H:=H.ak (hv 4 19 (hc 4 Y) O) O;have Hb:=H.full;have H:=Hb;clear hc;refine kH H (Ri bP aG O O ?_);exact aI
 ·intro av a w G1 _ ah hc hG HT hv;have H:=HT;clear ah;have H:=H.ak (hv 5 20 (hc 5 Y) O) O;have Hb:=H.full;have H:=Hb;clear hc;refine kH H (Rg aG O (aK hG g3) ?_);exact aI
 ·intro av a w G1 _ ah hc hG HT hv;have H:=HT;clear ah;have Hb:=H.full;have H:=Hb;clear hc;refine kH H (Rg nK O (aK hG ht) ?_);exact aI
 ·exact aO
 ·intro av a w G1 _ ah hc hG HT hv;have H:=HT;clear ah;have H:=H.ak (hv 8 23 (hc 8 Y) O) O;exact lQ
 ·intro av a w G1 _ ah hc hG HT hv;have H:=HT;clear ah;have H:=H.ak (hv 7 22 (hc 7 Y) O) O;have H:=H.ak (hv 9 24 (hc 9 Y) O) O;exact C8
 ·intro av a w G1 _ ah hc hG HT hv;have H:=HT;clear ah;have H:=H.ak (hv 10 25 (hc 10 Y) O) O;have Hb:=H.full;have H:=Hb;clear hc;refine kH H (Rg bI O (aK hG (by rw [eP,Nat.mul_one];exact hr)) ?_);exact aI
 ·exact aO
 ·intro av a w G1 _ ah hc hG HT hv;have H:=HT;clear ah;have H:=H.ak (hv 12 27 (hc 12 Y) O) O;exact lQ
 ·intro av a w G1 _ ah hc hG HT hv;have H:=HT;clear ah;have H:=H.ak (hv 11 26 (hc 11 Y) O) O;have H:=H.ak (hv 13 28 (hc 13 Y) O) O;exact AB
 ·intro av a w G1 _ ah hc hG HT hv;have H:=HT;clear ah;have H:=H.ak (hv 14 29 (hc 14 Y) O) O;have Hb:=H.full;have H:=Hb;clear hc;refine iF aG H wn O (H.hp.jh 0 O (by rw [Nat.mul_one];exact pI hz)) O ?_;exact aI
 ·intro av a w G1 _ ah hc hG HT hv;have H:=HT;clear ah;have H:=H.ak (hv 6 21 (hc 6 Y) O) O;have H:=H.ak (hv 15 30 (hc 15 Y) O) O;exact lQ
 ·intro av a w G1 _ ah hc hG HT hv;have H:=HT;clear ah;have H:=H.ak (hv 16 31 (hc 16 Y) O) O;exact uO
 clear H;intro a w G agB H hv;have H:=H.ak (hv 17 6 O O) O;clear hv;refine aB ⟨O,?_⟩;refine K1 _ _ ?_;clear K1;refine lr H results33 O ?_;exact H.hp.kY ⟨by rw [aL jr],O⟩
theorem xw:prog.underlying 167=some (.slice 177):=by kernel_rfl
theorem Fp:Ty prog 177 3 24 [.int .i64 0,.int .i64 0,.int .i64 0] true:=⟨Z,Z⟩
theorem aeD:ow prog 177 [(0,1),(1,1),(2,1)] [.int .i64 0,.int .i64 0,.int .i64 0]:=⟨Z,Z⟩
theorem xu:prog.underlying 142=some (.slice 158):=by kernel_rfl
theorem vG:Ty prog 158 3 24 [.int .i64 0,.int .i64 0,.int .i64 0] true:=⟨Z,Z⟩
theorem Us:ow prog 158 [(0,1),(1,1),(2,1)] [.int .i64 0,.int .i64 0,.int .i64 0]:=⟨Z,Z⟩
theorem Y8:bD 74:=bH func74 O
theorem Y9:bD 75:=bH func75 O
structure dR where
 low:Int
 high:Int
 cls:Int
def dR.dat (x:dR):List Dat:=[li x.low,li x.high,li x.cls]
def dR.cells (x:dR):List aj:=[vi x.low,vi x.high,vi x.cls]
theorem aey (G:GH) (x:dR):aT G x.dat x.cells:=by
 simp only [dR.dat,dR.cells,aT]
 exact CV
theorem Uo (G:GH):∀ (B A:List dR),bU G 3 (A.map dR.dat) (A.map dR.cells).flatten->bU G 3 ((A++B).map dR.dat) ((A++B).map dR.cells).flatten
 | [],A,h=>by rw [kr];exact h
 | x :: B,A,h=>by
  have h2:=h.snoc (aey G x) O;have h3:=Uo G B (A++[x]) (by simpa using h2)
  simpa using h3
theorem Kh (G:GH) (A:List dR):bU G 3 (A.map dR.dat) (A.map dR.cells).flatten:=Uo G A [] bU.nil
theorem aex {G:GH} {x:dR} {cs:List aj} (h:aT G x.dat cs):cs=x.cells:=by
 simp only [dR.dat,aT,ay] at h
 exact Dg
theorem Ap {p:Prop} (h:p:=by
 exact ⟨b,o,h1,h3⟩):p:=h
theorem Cg {G:GH} {l:List dR} {A:Option Addr} {n c k:Nat} (hv:ay G (.sl 3 (l.map dR.dat)) (.slice A n c)) (hk:k < l.length):∃ b o,A=some ⟨b,o,none⟩∧(∀ j u,l[k].cells[j]?=some u->aQ G b (o+k*3+j)=some u):=by
 obtain ⟨A',c',he,_,_,hg⟩:=hv.slice
 injection he with e1 e2 e3
 subst e1;obtain ⟨b,o,cs,h1,h2,h3,h4⟩:=hg k l[k].dat (by simp [hk]);obtain rfl:=aex h4;exact Ap
theorem aZ.all {e sz b n:Nat} {xs:List aj} (h:xs.length=n*sz) (hn:n<=maxLen):aZ e sz (.slice (some ⟨b,0,none⟩) n n) n xs [(b,.cells xs.toArray e (0,0))] :=
 ⟨h,.inr ⟨b,n,xs.toArray,rfl,rfl,aV _,hn,by simp [h],by simp [<- h]⟩⟩
def qB:List dR:=[⟨0,9,3⟩,⟨10,10,2⟩,⟨11,12,3⟩,⟨13,13,1⟩,⟨14,31,3⟩,⟨127,159,3⟩,⟨169,169,14⟩,⟨173,173,3⟩,⟨174,174,14⟩,⟨768,879,4⟩,⟨1155,1161,4⟩,⟨1425,1469,4⟩,⟨1471,1471,4⟩,⟨1473,1474,4⟩,⟨1476,1477,4⟩,⟨1479,1479,4⟩,⟨1536,1541,6⟩,⟨1552,1562,4⟩,⟨1611,1631,4⟩,⟨1648,1648,4⟩,⟨1750,1756,4⟩,⟨1757,1757,6⟩,⟨1759,1764,4⟩,⟨1767,1768,4⟩,⟨1770,1773,4⟩,⟨1807,1807,6⟩,⟨2274,2274,6⟩,⟨2307,2307,7⟩,⟨2362,2362,4⟩,⟨2363,2363,7⟩,⟨2364,2364,4⟩,⟨2366,2368,7⟩,⟨2369,2376,4⟩,⟨2377,2380,7⟩,⟨2381,2381,4⟩,⟨2382,2383,7⟩,⟨3633,3633,4⟩,⟨3635,3635,7⟩,⟨3636,3642,4⟩,⟨3655,3662,4⟩,⟨3763,3763,7⟩,⟨4352,4447,8⟩,⟨4448,4519,9⟩,⟨4520,4607,10⟩,⟨6832,6911,4⟩,⟨7616,7679,4⟩,⟨8203,8203,3⟩,⟨8204,8204,4⟩,⟨8205,8205,5⟩,⟨8206,8207,3⟩,⟨8232,8238,3⟩,⟨8252,8252,14⟩,⟨8265,8265,14⟩,⟨8288,8303,3⟩,⟨8400,8447,4⟩,⟨8482,8482,14⟩,⟨8505,8505,14⟩,⟨8596,8601,14⟩,⟨8617,8618,14⟩,⟨8986,8987,14⟩,⟨9193,9203,14⟩,⟨9728,9732,14⟩,⟨9748,9749,14⟩,⟨9786,9786,14⟩,⟨9800,9811,14⟩,⟨9989,9989,14⟩,⟨9992,9997,14⟩,⟨10024,10024,14⟩,⟨10084,10084,14⟩,⟨10133,10135,14⟩,⟨11088,11088,14⟩,⟨12330,12335,4⟩,⟨12441,12442,4⟩,⟨43360,43388,8⟩,⟨55216,55238,9⟩,⟨55243,55291,10⟩,⟨65024,65039,4⟩,⟨65056,65071,4⟩,⟨65279,65279,3⟩,⟨65520,65531,3⟩,⟨69821,69821,6⟩,⟨126976,127231,14⟩,⟨127462,127487,13⟩,⟨127744,127994,14⟩,⟨127995,127999,4⟩,⟨128000,128591,14⟩,⟨128640,128767,14⟩,⟨129280,129535,14⟩,⟨129648,129791,14⟩,⟨917504,917535,3⟩,⟨917536,917631,4⟩,⟨917632,917759,3⟩,⟨917760,917999,4⟩,⟨918000,921599,3⟩]
def EK:List dR:=[⟨9,9,2⟩,⟨10,13,1⟩,⟨29,29,1⟩,⟨32,32,2⟩,⟨33,33,9⟩,⟨39,39,11⟩,⟨40,40,8⟩,⟨41,41,9⟩,⟨44,44,10⟩,⟨45,45,12⟩,⟨46,46,10⟩,⟨48,57,6⟩,⟨58,59,9⟩,⟨63,63,9⟩,⟨65,90,5⟩,⟨91,91,8⟩,⟨93,93,9⟩,⟨95,95,5⟩,⟨97,122,5⟩,⟨123,123,8⟩,⟨125,125,9⟩,⟨133,133,1⟩,⟨160,160,3⟩,⟨170,170,5⟩,⟨171,171,8⟩,⟨173,173,4⟩,⟨181,181,5⟩,⟨183,183,11⟩,⟨186,186,5⟩,⟨187,187,9⟩,⟨192,214,5⟩,⟨216,246,5⟩,⟨248,687,5⟩,⟨880,883,5⟩,⟨886,887,5⟩,⟨891,893,5⟩,⟨895,895,5⟩,⟨902,902,5⟩,⟨904,1153,5⟩,⟨1162,1327,5⟩,⟨1329,1366,5⟩,⟨1377,1415,5⟩,⟨1488,1514,5⟩,⟨1568,1610,5⟩,⟨1632,1641,6⟩,⟨1643,1643,10⟩,⟨1649,1747,5⟩,⟨1776,1785,6⟩,⟨2308,2361,5⟩,⟨2392,2401,5⟩,⟨2406,2415,6⟩,⟨3585,3632,5⟩,⟨3648,3654,5⟩,⟨3664,3673,6⟩,⟨4256,4351,5⟩,⟨4352,4607,5⟩]
def J2:List dR:=[⟨5760,5760,2⟩,⟨7680,8191,5⟩,⟨8192,8198,2⟩,⟨8199,8199,3⟩,⟨8200,8202,2⟩,⟨8208,8208,12⟩,⟨8211,8211,12⟩,⟨8212,8212,13⟩,⟨8216,8216,8⟩,⟨8217,8217,11⟩,⟨8220,8220,8⟩,⟨8221,8221,9⟩,⟨8230,8230,9⟩,⟨8232,8233,1⟩,⟨8239,8239,3⟩,⟨8287,8287,2⟩,⟨8288,8288,3⟩,⟨12288,12288,2⟩,⟨12289,12290,9⟩,⟨12296,12296,8⟩,⟨12297,12297,9⟩,⟨12298,12298,8⟩,⟨12299,12299,9⟩,⟨12300,12300,8⟩,⟨12301,12301,9⟩,⟨12302,12302,8⟩,⟨12303,12303,9⟩,⟨12304,12304,8⟩,⟨12305,12305,9⟩,⟨12308,12308,8⟩,⟨12309,12309,9⟩,⟨12353,12438,7⟩,⟨12449,12538,7⟩,⟨12549,12591,7⟩,⟨13312,19903,7⟩,⟨19968,40959,7⟩,⟨44032,55203,5⟩,⟨63744,64255,7⟩,⟨65279,65279,3⟩,⟨65296,65305,6⟩,⟨127744,128591,7⟩,⟨128640,128767,7⟩,⟨129280,129535,7⟩,⟨131072,195103,7⟩]
def lD:List dR:=EK++J2
set_option maxRecDepth 20000 in
theorem ZT (G:GH) (w0:World) (hG:Hold G w0):Calls prog 82 #[] w0 (bK w0 G fun u G'=>ay G' (.sl 3 (qB.map dR.dat)) u):=by
 refine eN [] func82 O ntmps82 O O hG ?_;intro a H;refine kP H (SR fun _ K1=>au K1 O (SR fun _ K2=>?_));clear H K1;intro a H;(iterate 94 refine jQ aeD [_,_,_] H wn O O O O ?_;clear H;intro a H);refine wS xw Fp (qB.map dR.cells) H wn O O O O O O O ?_;clear H;intro b95 a w ahc H;refine kH H (au K2 O ?_);clear H K2;intro a H;refine lr H results82 O ?_;obtain ⟨Gz,hmz,hbz,H⟩:=H.gP;exact H.rt (ay.mP (n:=94) (cap:=94) hbz O (aV _) (show 94<=maxLen by decide) (gX (aV _)) (Kh _ _))
set_option maxRecDepth 20000 in
theorem aeu (G:GH) (w0:World) (hO:jc G [] w0):Calls prog 74 #[] w0 (jd w0 G [] fun u G' L'=>G=G'∧aZ 158 3 u 56 (EK.map dR.cells).flatten L'):=by
 refine lS (N:=58) (T:=[]) func74 O ntmps74 O O hO ?_;intro a H;refine kP H (SR fun _ K1=>au K1 O (SR fun _ K2=>?_));clear H K1;intro a H;(iterate 56 refine jQ Us [_,_,_] H wn O O O O ?_;clear H;intro a H);refine wS xu vG (EK.map dR.cells) H wn O O O O O O O ?_;clear H;intro Wh a w aay H;exact kH H (au K2 O (LR results74 O fun H=>H.hp.kY ⟨O,aZ.all O Y⟩))
theorem aek (G:GH) (w0:World) (hG:Hold G w0):Calls prog 75 #[] w0 (bK w0 G fun u G'=>ay G' (.sl 3 (J2.map dR.dat)) u):=by
 refine eN [] func75 O ntmps75 O O hG ?_;intro a H;refine kP H (SR fun _ K1=>au K1 O (SR fun _ K2=>?_));clear H K1;intro a H;(iterate 44 refine jQ Us [_,_,_] H wn O O O O ?_;clear H;intro a H);refine wS xu vG (J2.map dR.cells) H wn O O O O O O O ?_;clear H;intro Wd a w aax H;refine kH H (au K2 O ?_);clear H K2;intro a H;refine lr H results75 O ?_;obtain ⟨Gz,hmz,hbz,H⟩:=H.gP;exact H.rt (ay.mP (n:=44) (cap:=44) hbz O (aV _) (show 44<=maxLen by decide) (gX (aV _)) (Kh _ _))
theorem aeF (G:GH) (w0:World) (hG:Hold G w0):Calls prog 65 #[] w0 (bK w0 G fun u G'=>ay G' (.sl 3 (lD.map dR.dat)) u):=by
 have hml:maxLen=9223372036854775807:=rfl;refine eN [] func65 O ntmps65 O O hG ?_;intro a H;refine kP H (SR fun _ K1=>au K1 O (SR fun _ K2=>?_));clear H K1;intro a H;refine jR Y8 (Li:=[]) (L:=[]) H wn O (aeu _ _ (Hp.owns (Li:=[]) H.hp)) O ?_;clear H;rintro v1 _ L1 a w ⟨rfl,hrw⟩ - H;dsimp only [List.nil_append] at H;refine s_call Y9 H wn O (aek _ _ H.ro) O ?_;clear H;rintro v2 G2 a w hrep hm2 H;obtain ⟨A2,c2,rfl,-,-,-⟩:=hrep.slice;refine TQ (Li:=[]) (Lo:=L1) xu vG O O H wn O O hrw hrep Y Y O ?_;clear H;intro v3 Lo3 ahv a w hrw3 IG H;dsimp only [List.nil_append] at H;refine kH H (au K2 O ?_);clear H K2;intro a H;refine lr H results65 O ?_;obtain ⟨Gr,hmr,pQ,H⟩:=St.kU (Li:=[]) H hrw3 (rows:=lD.map dR.dat) (by rfl) (by rw [lD,ku];exact (Kh _ EK).append IG);exact H.rt pQ
theorem Fu:prog.underlying 136=some (.int .u64):=by kernel_rfl
theorem zT:Ty prog 167 1 24 [.slice none 0 0] false:=⟨Z,Z⟩
theorem ZE:fu prog 177 1 1:=⟨Z⟩
theorem Qy:bD 87:=bH func87 O
theorem ZC:fu prog 177 0 0:=⟨Z⟩
theorem ZF:fu prog 177 2 2:=⟨Z⟩
theorem Zg:bD 88:=bH func88 O
theorem U9 {z:Int} (h1:0<=z) (h2:z < 18446744073709551616):IntKind.u64.wrap z=z:=by
 simp only [IntKind.wrap,IntKind.bits,IntKind.signed,Bool.false_and,xM,if_false]
 omega
theorem Uj (n:Nat):((n:Nat):Int).fdiv (2 ^ 1)=((n / 2:Nat):Int):=by
 rw [Int.fdiv_eq_ediv_of_nonneg _ Y];omega
def bs (p:Nat->Bool):Nat->Nat->Nat->Nat
 | 0,i,_=>i
 | f+1,i,j=>if i < j then (if p ((i+j) / 2) then bs p f i ((i+j) / 2) else bs p f ((i+j) / 2+1) j) else i
theorem Pb {p:Nat->Bool} {f i j:Nat} (hf:j - i<=f) (h:i < j):bs p f i j=if p ((i+j) / 2) then bs p (f - 1) i ((i+j) / 2) else bs p (f - 1) ((i+j) / 2+1) j:=by
 match f,hf with
 | 0,hf=>omega
 | f+1,_=>rw [bs,aM h];rfl
theorem O9 {p:Nat->Bool} {f i j:Nat} (h:¬ i < j):bs p f i j=i:=by
 match f with
 | 0=>rfl
 | f+1=>rw [bs,aL h]
theorem MJ {p:Prop} (h:p:=by
 exact ⟨dO _,aV _,Nat.sub_le _ _,O,fun _ _ h=>h⟩):p:=h
theorem Uf (G:GH) (w0:World) (hG:Hold G w0) (n:Nat) (p:Nat->Bool) (fv:aj) (hn:n<=4294967296) (hf:∀ (i:Nat) (G1:GH) (w1:World),i < n->(∀ b o,G b=some o->G1 b=some o)->Hold G1 w1->qV prog fv [vi i] w1 (bK w1 G1 fun u G'=>u=.bool (p i))) :
  Calls prog 87 #[vi n,fv] w0 (bK w0 G fun u G'=>u=vi (bs p n 0 n)):=by
 refine eN [(0,_),(1,_)] func87 O ntmps87 O O hG ?_;intro a H;refine kP H (SR fun _ K1=>au K1 O (SR fun _ K2=>Rm O (Ra O (au K2 O (SQ fun _ K3=>SB ?_)))));clear H K1 K2;intro a H;skip;refine dz (ι:=Nat × Nat × Nat × GH) (Tc:=[(1,_)]) (Lc:=[]) (fun gh=>[(5,vi gh.1),(6,vi gh.2.1)]) (fun gh=>[]) (fun gh=>gh.2.2.2) (fun gh=>gh.1<=gh.2.1∧gh.2.1<=n∧gh.2.1 - gh.1<=gh.2.2.1∧bs p gh.2.2.1 gh.1 gh.2.1=bs p n 0 n∧(∀ b o,G b=some o->gh.2.2.2 b=some o)) (fun gh=>gh.2.1 - gh.1) ((0,n,n,G)) (by exact H.sub ⟨O,O,O,aH⟩) ?_ ?_
 ·exact MJ
 clear H;rintro ⟨i,j,f,g⟩ a w hI H;dsimp only at hI H;obtain ⟨hij,hj,hf1,heq,hgm⟩:=hI;dsimp only [lca,bR] at H;refine kP H (SQ fun _ K1=>SR fun _ K2=>Rm O (Rm O (Rc O (Kz K2 (Cd O ?_ ?_))))) <;> clear H K2
 ·intro h11 a H
  try have oO:=dT h11
  have hlt:i < j:=by omega
  rw [Pb hf1 hlt] at heq;refine kP H (Kc K1 (SB (SR fun _ K2=>Rm O (Rm O (Rd O ?_)))));clear H K1;intro a H;rw [show ((i:Int)+(j:Int))=((i+j:Nat):Int) by push_cast;rfl] at H;refine vD ((i+j:Nat):Int) Fu um H wn O (U9 V V) O ?_;clear H;intro a H;refine J5 _ H wn O O O Y O ?_;clear H;intro a H;rw [Uj] at H;refine vD (((i+j) / 2:Nat):Int) um Fu H wn O (tQ V V) O ?_;clear H;intro a H;refine kH H (au K2 O (SR fun _ K1=>Rm O (Rm O ?_)));clear H K2;intro a H;refine wT H wn O O (hf ((i+j) / 2) _ _ V hgm H.ro) O ?_;clear H;rintro v20 uz a w rfl Bo H;refine kH H (Rn O (Kz K1 (Cd O ?_ ?_))) <;> clear H K1
  ·intro h21 a H
   try have kN:=dT h21
   rw [aL (by simpa using h21)] at heq;refine kP H (SC (Rm O (Rd O (Ra O ?_))));clear H;intro a H;refine aB ?_;refine aX (((i+j) / 2+1,j,f - 1,uz)) (by exact H.sub ⟨O,O,O,aH⟩) ?_
   (try dsimp only);exact ⟨V,hj,V,heq,fun b o h=>Bo b o (hgm b o h)⟩
  intro h21 a H
  try have kN:=dF h21
  rw [aM (by simpa using h21)] at heq;refine kP H (SC (Rm O (Ra O ?_)));clear H;intro a H;refine aB ?_;refine aX ((i,(i+j) / 2,f - 1,uz)) (by exact H.sub ⟨O,O,O,aH⟩) ?_
  (try dsimp only);exact ⟨V,V,V,heq,fun b o h=>Bo b o (hgm b o h)⟩
 intro h11 a H
 try have oO:=dF h11
 refine bQ ?_;refine K3 _ _ ?_;clear K3;exact kP H (SR fun _ K2=>Rm O (au K2 O (LR results87 O fun H=>H.rt (by rw [<- heq,O9 V]))))
def uZ (l:List dR) (p:Int) (i:Nat):Bool:=match l[i]? with|some x=>decide (x.high ≥ p)|none=>false
def ni (l:List dR) (p:Int):Int :=
 if 44032<=p∧p<=55203 then (if (p - 44032).tmod 28=0 then 11 else 12)
 else match l[bs (uZ l p) l.length 0 l.length]? with|some x=>if x.low<=p then x.cls else 0|none=>0
theorem uM {p:Prop} (h:p:=by
 have Hb:=H.full;have H:=Hb;clear hc;refine kH H (Rc O ?_);exact aI):p:=h
theorem Rj {G:GH} {bl bp:Nat} {l:List dR} {A:Option Addr} {c:Nat} {p:Int} (hb:aQ G bl 0=some (.slice A l.length c)) (hp:aQ G bp 0=some (vi p)) (hv:ay G (.sl 3 (l.map dR.dat)) (.slice A l.length c)) (i:Nat) (G1:GH) (w0:World) (hi:i < l.length) (hm:∀ b o,G b=some o->G1 b=some o) (hG:Hold G1 w0) :
  qV prog (.func (.func 88) #[] #[(aD bl 0),(aD bp 0)]) [vi i] w0 (bK w0 G1 fun u G'=>u=.bool (uZ l p i)):=by
 refine rE (caps:=[(aD bl 0),(aD bp 0)]) Zg ?_;obtain ⟨b,o,rfl,hrow⟩:=Cg hv hi;have h1:=aK hm hb;have h2:=aK hm hp;have h3:=aK hm (hrow 1 _ O)
 have e:uZ l p i=decide (l[i].high ≥ p):=by simp only [uZ,gU hi]
 rw [e];refine eN [(0,_),(1,_),(2,_)] func88 O ntmps88 O O hG ?_;intro a H;refine kP H (SR fun _ K1=>au K1 O (SQ fun _ K2=>?_));clear H K1;intro a H;have H:=H.sub (T':=[(0,_),(1,_),(2,_)]) ⟨O,O,O,aH⟩;refine dI fF [[],[],[0,1],[0,1,2],ra 0 4,[],ra 0 6,ra 0 7] [] Z [.slice (some ⟨b,o,none⟩) l.length c,vi i,(aD b (o+i*3)),(aD b (o+i*3+1)),vi l[i].high,vi p,.bool (decide (l[i].high ≥ p)),.bool (decide (l[i].high ≥ p))] H (aF ?_ ?_ ?_ ?_ (aF ?_ ?_ ?_ ?_ fB)) ?_
 ·intro av a w G1 _ ah hc hG HT hv;have H:=HT;clear ah;have Hb:=H.full;have H:=Hb;clear hc;refine kH H (Rg zT O (aK hG h1) ?_);exact aI
 ·exact aO
 ·intro av a w G1 _ ah hc hG HT hv;have H:=HT;clear ah;have H:=H.ak (hv 0 5 (hc 0 Y) O) O;have H:=H.ak (hv 1 6 (hc 1 Y) O) O;have Hb:=H.full;have H:=Hb;clear hc;refine kH H (Ri xw Fp O O ?_);exact aI
 ·intro av a w G1 _ ah hc hG HT hv;have H:=HT;clear ah;have H:=H.ak (hv 2 7 (hc 2 Y) O) O;have Hb:=H.full;have H:=Hb;clear hc;refine kH H (Rf ZE O ?_);exact aI
 ·intro av a w G1 _ ah hc hG HT hv;have H:=HT;clear ah;have H:=H.ak (hv 3 8 (hc 3 Y) O) O;have Hb:=H.full;have H:=Hb;clear hc;refine kH H (Rg aG O (aK hG h3) ?_);exact aI
 ·intro av a w G1 _ ah hc hG HT hv;have H:=HT;clear ah;have Hb:=H.full;have H:=Hb;clear hc;refine kH H (Rg aG O (aK hG h2) ?_);exact aI
 ·intro av a w G1 _ ah hc hG HT hv;have H:=HT;clear ah;have H:=H.ak (hv 4 9 (hc 4 Y) O) O;have H:=H.ak (hv 5 10 (hc 5 Y) O) O;exact uM
 ·intro av a w G1 _ ah hc hG HT hv;have H:=HT;clear ah;have H:=H.ak (hv 6 11 (hc 6 Y) O) O;exact uO
 clear H;intro a w G Ir H hv;have H:=H.ak (hv 7 4 O O) O;clear hv;refine aB ⟨O,?_⟩;refine K2 _ _ ?_;clear K2;refine lr H results88 O ?_;exact H.rt O
theorem F8 {p:Prop} (h:p:=by
 first|rw [aM c1]|rw [aL c1]|exact absurd h V):p:=h
theorem WJ {p:Prop} (h:p:=by
 intro a H;refine lr H results83 O ?_;have hkl:=fun (h:k < l.length)=>gU h
 exact H.rt (by
  rw [ni,dh,<- hk]
  by_cases h:k < l.length
  ·obtain ⟨-,hx1,hx2,-,-⟩:=hx h;rw [hkl h] at hx1 hx2 |-
   simp only [oF,jL] at hx1 hx2
   dsimp only;rw [hx1,hx2]
   exact F8
  rw [List.getElem?_eq_none V] <;> first|rfl|exact absurd c0 V)):p:=h
theorem WK {p:Prop} (h:p:=by
 refine lr H results83 O ?_;have hkl:=fun (h:k < l.length)=>gU h
 exact H.rt (by
  rw [ni,dh,<- hk]
  by_cases h:k < l.length
  ·obtain ⟨-,hx1,hx2,-,-⟩:=hx h;rw [hkl h] at hx1 hx2 |-
   simp only [oF,jL] at hx1 hx2
   dsimp only;rw [hx1,hx2]
   exact F8
  rw [List.getElem?_eq_none V] <;> first|rfl|exact absurd c0 V)):p:=h
theorem Oq {p:Prop} (h:p:=by
 obtain ⟨-,hx1,hx2,-,-⟩:=hx h;rw [hkl h] at hx1 hx2 |-
 simp only [oF,jL] at hx1 hx2
 dsimp only;rw [hx1,hx2]
 exact F8):p:=h
theorem Oy {p:Prop} (h:p:=by
 by_cases h:k < l.length
 ·obtain ⟨sb,so,h1,h2⟩:=Cg hv2 h;exact ⟨_,_,sb,so,fun _=>⟨h1,by rw [gU h];rfl,by rw [gU h];rfl,h2 0 _ rfl,h2 2 _ rfl⟩⟩
 exact ⟨0,0,0,0,fun h'=>absurd h' h⟩):p:=h
theorem lq {p:Prop} (h:p:=by
 have Hb:=H.full;have H:=Hb;clear hc;refine kH H (Rm O ?_);exact aI):p:=h
theorem OQ {p:Prop} (h:p:=by
 intro av a w G1 _ ah hc hG HT hv;have H:=HT;clear ah;have H:=H.ak (hv 5 25 (hc 5 Y) O) O;have H:=H.ak (hv 6 26 (hc 6 Y) O) O;have H:=H.ak (hv 4 24 (hc 4 Y) O) O;have Hb:=H.full;have H:=Hb;clear hc;obtain ⟨rfl,hx1,hx2,hx3,hx4⟩:=hx V;refine bO xw Fp k H (wg H O O (iM c0)) O O O V O ?_;exact aI):p:=h
theorem OV {p:Prop} (h:p:=by
 intro av a w G1 _ ah hc hG HT hv;have H:=HT;clear ah;have H:=H.ak (hv 8 28 (hc 8 Y) O) O;have H:=H.ak (hv 4 24 (hc 4 Y) O) O;have Hb:=H.full;have H:=Hb;clear hc;obtain ⟨rfl,hx1,hx2,hx3,hx4⟩:=hx V;refine kH H (YR aG (iM c0) O (aK hG hx3) ?_);exact aI):p:=h
theorem Du {p:Prop} (h:p:=by
 intro av a w G1 _ ah hc hG HT hv;have H:=HT;clear ah;have H:=H.ak (hv 1 21 (hc 1 Y) O) O;have Hb:=H.full;have H:=Hb;clear hc;refine kH H (Rl xw O ?_);exact aI):p:=h
theorem OZ {p:Prop} (h:p:=by
 intro av a w G1 _ ah hc hG HT hv;have H:=HT;clear ah;have H:=H.ak (hv 9 29 (hc 9 Y) O) O;have H:=H.ak (hv 10 30 (hc 10 Y) O) O;have H:=H.ak (hv 4 24 (hc 4 Y) O) O;have Hb:=H.full;have H:=Hb;clear hc;refine kH H (YC (iM c0) O ?_);exact aI):p:=h
theorem O1 {p:Prop} (h:p:=by
 have Hb:=H.full;have H:=Hb;clear hc;refine kH H (YM (iM c0) O ?_);exact aI):p:=h
theorem Dv {p:Prop} (h:p:=by
 intro av a w G1 _ ah hc hG HT hv;have H:=HT;clear ah;have Hb:=H.full;have H:=Hb;clear hc;refine kH H (Rg zT O (aK hG q2) ?_);exact aI):p:=h
theorem O4 {p:Prop} (h:p:=by
 intro av a w G1 _ ah hc hG HT hv;have H:=HT;clear ah;have H:=H.ak (hv 7 27 (hc 7 Y) O) O;have H:=H.ak (hv 4 24 (hc 4 Y) O) O;have Hb:=H.full;have H:=Hb;clear hc;refine kH H (YF ZC (iM c0) O ?_);exact aI):p:=h
theorem O6 {p:Prop} (h:p:=by
 intro av a w G1 _ ah hc hG HT hv;have H:=HT;clear ah;have H:=H.ak (hv 4 24 (hc 4 Y) O) O;have H:=H.ak (hv 11 31 (hc 11 Y) O) O;have Hb:=H.full;have H:=Hb;clear hc;refine kH H (Pt (iM c0) O ?_);exact aI):p:=h
theorem O7 {p:Prop} (h:p:=by
 intro av a w G1 _ ah hc hG HT hv;have H:=HT;clear ah;have H:=H.ak (hv 4 24 (hc 4 Y) O) O;have Hb:=H.full;have H:=Hb;clear hc;refine kH H (YR zT (iM c0) O (aK hG q2) ?_);exact aI):p:=h
theorem O8 {p:Prop} (h:p:=by
 intro av a w G1 _ ah hc hG HT hv;have H:=HT;clear ah;have H:=H.ak (hv 4 24 (hc 4 Y) O) O;have Hb:=H.full;have H:=Hb;clear hc;refine kH H (YR aG (iM c0) O (aK hG q3) ?_);exact aI):p:=h
theorem WU {p:Prop} (h:p:=by
 clear H;intro a w G uX H hv;have H:=H.ak (hv 12 32 O O) O;clear hv;refine aB ⟨O,?_⟩;refine K3 _ _ ?_;clear K3;refine GK H O (iM c1) ?_;refine fT (fun _ K1=>?_);obtain ⟨rfl,hx1,hx2,hx3,hx4⟩:=hx V;have q2:=aK uX q2;have hx4:=aK uX hx4;refine kP H (SC (Rg zT O q2 (Rm O ?_)));clear H;intro a H;refine bO xw Fp k H wn O O O V O ?_;clear H;intro a H;refine kH H (Rf ZF O (Rg aG O hx4 (cO K1 O ?_)));clear H K1;intro a H;exact WK):p:=h
theorem MR {p:Prop} (h:p:=by
 intro av a w G1 _ ah hc hG HT hv;have H:=HT;clear ah;have H:=H.ak (hv 4 24 (hc 4 Y) O) O;have H:=H.ak (hv 11 31 (hc 11 Y) O) O;have Hb:=H.full;have H:=Hb;clear hc;refine kH H (Pf (dU c0) O ?_);exact aI):p:=h
theorem WG {p:Prop} (h:p:=by
 clear H;intro a w G uX H hv;have H:=H.ak (hv 12 32 O O) O;clear hv;refine aB ⟨O,?_⟩;refine K3 _ _ ?_;clear K3;refine rD H O (dU c1) ?_;refine kP H (Kc K2 (SR fun _ K1=>au K1 O ?_));clear H K2 K1;exact WJ):p:=h
theorem NJ {p:Prop} (h:p:=by
 skip
 by_cases c1:lo<=p
 ·skip;refine dI fF [[],[],[1],[0,1,2],ra 0 4,ra 0 5,ra 0 5,ra 0 7,ra 0 8,ra 0 9,ra 0 5,ra 0 11,ra 0 12] [] Z [vi k,.slice A l.length c,vi l.length,.bool (decide ((k:Int) < (l.length:Int))),.bool (decide ((k:Int) < (l.length:Int))),.slice A l.length c,vi k,(aD sb (so+k*3)),(aD sb (so+k*3+0)),vi lo,vi p,.bool (decide (lo<=p)),.bool (decide (lo<=p))] H (aF ?_ ?_ ?_ ?_ (aF ?_ ?_ ?_ ?_ (aF ?_ ?_ ?_ ?_ (gN ?_ fB)))) ?_
  ·exact aO
  ·exact Dv
  ·exact Du
  ·intro av a w G1 _ ah hc hG HT hv;have H:=HT;clear ah;have H:=H.ak (hv 0 20 (hc 0 Y) O) O;have H:=H.ak (hv 2 22 (hc 2 Y) O) O;exact uM
  ·intro av a w G1 _ ah hc hG HT hv;have H:=HT;clear ah;have H:=H.ak (hv 3 23 (hc 3 Y) O) O;exact lq
  ·exact O7
  ·intro av a w G1 _ ah hc hG HT hv;have H:=HT;clear ah;have H:=H.ak (hv 4 24 (hc 4 Y) O) O;exact O1
  ·exact OQ
  ·exact O4
  ·exact OV
  ·exact O8
  ·exact OZ
  ·exact O6
  exact WU
 skip;refine dI fF [[],[],[1],[0,1,2],ra 0 4,ra 0 5,ra 0 5,ra 0 7,ra 0 8,ra 0 9,ra 0 5,ra 0 11,ra 0 12] [] Z [vi k,.slice A l.length c,vi l.length,.bool (decide ((k:Int) < (l.length:Int))),.bool (decide ((k:Int) < (l.length:Int))),.slice A l.length c,vi k,(aD sb (so+k*3)),(aD sb (so+k*3+0)),vi lo,vi p,.bool (decide (lo<=p)),.bool (decide (lo<=p))] H (aF ?_ ?_ ?_ ?_ (aF ?_ ?_ ?_ ?_ (aF ?_ ?_ ?_ ?_ (gN ?_ fB)))) ?_
 ·exact aO
 ·exact Dv
 ·exact Du
 ·intro av a w G1 _ ah hc hG HT hv;have H:=HT;clear ah;have H:=H.ak (hv 0 20 (hc 0 Y) O) O;have H:=H.ak (hv 2 22 (hc 2 Y) O) O;exact uM
 ·intro av a w G1 _ ah hc hG HT hv;have H:=HT;clear ah;have H:=H.ak (hv 3 23 (hc 3 Y) O) O;exact lq
 ·exact O7
 ·intro av a w G1 _ ah hc hG HT hv;have H:=HT;clear ah;have H:=H.ak (hv 4 24 (hc 4 Y) O) O;exact O1
 ·exact OQ
 ·exact O4
 ·exact OV
 ·exact O8
 ·exact OZ
 ·exact O6
 exact WG):p:=h
theorem NP {p:Prop} (h:p:=by
 intro av a w G1 _ ah hc hG HT hv;have H:=HT;clear ah;have H:=H.ak (hv 0 20 (hc 0 Y) O) O;have H:=H.ak (hv 2 22 (hc 2 Y) O) O;exact uM):p:=h
theorem NR {p:Prop} (h:p:=by
 intro av a w G1 _ ah hc hG HT hv;have H:=HT;clear ah;have H:=H.ak (hv 3 23 (hc 3 Y) O) O;exact lq):p:=h
theorem XB (G:GH) (w0:World) (hG:Hold G w0) (l:List dR) (p:Int) (v:aj) (hv:ay G (.sl 3 (l.map dR.dat)) v) (hl:l.length<=4294967296) (hp:0<=p∧p<=4294967296) :
  Calls prog 83 #[v,vi p] w0 (bK w0 G fun u G'=>u=vi (ni l p)):=by
 obtain ⟨A,c,rfl,hc1,hc2,-⟩:=hv.slice;rw [bG] at *;refine eN [(0,_),(1,_)] func83 O ntmps83 O O hG ?_;intro a H;refine iV (fun _ K1=>?_);refine lV (cs:=[_]) H wn O O O ?_;clear H;intro b2 a w hb2 H;refine lV (cs:=[_]) H wn O O O ?_;clear H;intro b3 a w hb3 H;refine kH H (au K1 O (SQ fun _ K2=>SR fun _ K3=>Ro aG 0 O (Rc O (Rm O (Sp 8 O ?_ ?_))))) <;> clear H K1
 ·intro h8 a H
  try have p8:=dT h8
  refine kH H (YO aG 0 h8 O (YC h8 O (Pt h8 O (Kz K3 (Cd O ?_ ?_))))) <;> clear H K3
  ·intro h11 a H
   try have oO:=dT h11
   refine kP H (SQ fun _ K1=>SR fun _ K3=>Ro aG 0 O (Rs O ?_));clear H;intro a H;refine ER ((p - 44032).tmod 28) H wn O O Y O O ?_;clear H;intro a H;refine kH H (Rc O (Kz K3 (Cd O ?_ ?_))) <;> clear H K3
   ·intro jg a H
    try have nG:=dT jg
    exact kP H (SR fun _ K3=>au K3 O (LR results83 O fun H=>H.rt (by rw [ni,aM ⟨V,V⟩,aM nG])))
   intro jg a H
   try have nG:=dF jg
   exact kP H (Kc K1 (SR fun _ K3=>au K3 O (LR results83 O fun H=>H.rt (by rw [ni,aM ⟨V,V⟩,aL nG]))))
  intro h11 a H
  try have oO:=dF h11
  refine kI ?_;refine K2 _ _ ?_;clear K2;refine fT (fun _ K1=>?_);obtain ⟨Ga,hma,IB,H⟩:=H.gP;obtain ⟨Gb,hmb,hb2',H⟩:=H.gP;have hv2:=(hv.mono hma).mono hmb
  have q2:aQ Gb b2 0=some (.slice A l.length c):=by unfold aQ;rw [hb2'];rfl
  have q3:aQ Gb b3 0=some (vi p):=by unfold aQ;rw [hmb _ _ IB];rfl
  refine kP H (SC (Rg zT O q2 (Rl xw O ?_)));clear H;intro a H;refine Cc H wn O O ?_;clear H;intro a H;refine s_call Qy H wn O (Uf _ _ H.ro l.length (uZ l p) _ hl (fun i G1 w1 hi hm hG1=>Rj q2 q3 hv2 i G1 w1 hi hm hG1)) O ?_;clear H;rintro v19 oU a w rfl kV H;have q2:=aK kV q2;have q3:=aK kV q3;have hv2:=hv2.mono kV;obtain ⟨k,hk⟩:∃ k,k=bs (uZ l p) l.length 0 l.length:=⟨_,O⟩;rw [<- hk] at H;refine kH H (cO K1 O (SQ fun _ K2=>SQ fun _ K3=>?_));clear H K1;intro a H
  obtain ⟨lo,cl,sb,so,hx⟩:∃ lo cl sb so,k < l.length->A=some ⟨sb,so,none⟩∧l[k]?.map dR.low=some lo∧l[k]?.map dR.cls=some cl∧aQ oU sb (so+k*3+0)=some (vi lo)∧aQ oU sb (so+k*3+2)=some (vi cl):=by
   exact Oy
  by_cases c0:(k:Int) < (l.length:Int)
  ·exact NJ
  skip;refine dI fF [[],[],[1],[0,1,2],ra 0 4,ra 0 5,ra 0 5,ra 0 7,ra 0 8,ra 0 9,ra 0 5,ra 0 11,ra 0 12] [] Z [vi k,.slice A l.length c,vi l.length,.bool (decide ((k:Int) < (l.length:Int))),.bool (decide ((k:Int) < (l.length:Int))),undef,undef,undef,undef,undef,undef,undef,.bool false] H (aF ?_ ?_ ?_ ?_ (aF ?_ (fq 4 (dU c0) O O) (fq 4 (dU c0) O O) (fq 4 (dU c0) O O) (aF (fq 4 (dU c0) O O) (fq 4 (dU c0) O O) (fq 4 (dU c0) O O) (fq 4 (dU c0) O O) (gN ?_ fB)))) ?_
  ·exact aO
  ·exact Dv
  ·exact Du
  ·exact NP
  ·exact NR
  ·exact MR
  clear H;intro a w G uX H hv;have H:=H.ak (hv 12 32 O O) O;clear hv;refine aB ⟨O,?_⟩;refine K3 _ _ ?_;clear K3;refine rD H O O ?_;refine kP H (Kc K2 (SR fun _ K1=>au K1 O ?_));clear H K2 K1;intro a H;refine lr H results83 O ?_;have hkl:=fun (h:k < l.length)=>gU h
  exact H.rt (by
   rw [ni,dh,<- hk]
   by_cases h:k < l.length
   ·exact Oq
   rw [List.getElem?_eq_none V] <;> first|rfl|exact absurd c0 V)
 intro h8 a H
 try have p8:=dF h8
 refine kH H (aR h8 O (Pf h8 O (Kz K3 (Cf O O (Kc K2 (SQ fun _ K1=>?_))))));clear H K3 K2;intro a H;obtain ⟨Ga,hma,IB,H⟩:=H.gP;obtain ⟨Gb,hmb,hb2',H⟩:=H.gP;have hv2:=(hv.mono hma).mono hmb
 have q2:aQ Gb b2 0=some (.slice A l.length c):=by unfold aQ;rw [hb2'];rfl
 have q3:aQ Gb b3 0=some (vi p):=by unfold aQ;rw [hmb _ _ IB];rfl
 refine kP H (SC (Rg zT O q2 (Rl xw O ?_)));clear H;intro a H;refine Cc H wn O O ?_;clear H;intro a H;refine s_call Qy H wn O (Uf _ _ H.ro l.length (uZ l p) _ hl (fun i G1 w1 hi hm hG1=>Rj q2 q3 hv2 i G1 w1 hi hm hG1)) O ?_;clear H;rintro v19 oU a w rfl kV H;have q2:=aK kV q2;have q3:=aK kV q3;have hv2:=hv2.mono kV;obtain ⟨k,hk⟩:∃ k,k=bs (uZ l p) l.length 0 l.length:=⟨_,O⟩;rw [<- hk] at H;refine kH H (cO K1 O (SQ fun _ K2=>SQ fun _ K3=>?_));clear H K1;intro a H
 obtain ⟨lo,cl,sb,so,hx⟩:∃ lo cl sb so,k < l.length->A=some ⟨sb,so,none⟩∧l[k]?.map dR.low=some lo∧l[k]?.map dR.cls=some cl∧aQ oU sb (so+k*3+0)=some (vi lo)∧aQ oU sb (so+k*3+2)=some (vi cl):=by
  exact Oy
 by_cases c0:(k:Int) < (l.length:Int)
 ·exact NJ
 skip;refine dI fF [[],[],[1],[0,1,2],ra 0 4,ra 0 5,ra 0 5,ra 0 7,ra 0 8,ra 0 9,ra 0 5,ra 0 11,ra 0 12] [] Z [vi k,.slice A l.length c,vi l.length,.bool (decide ((k:Int) < (l.length:Int))),.bool (decide ((k:Int) < (l.length:Int))),undef,undef,undef,undef,undef,undef,undef,.bool false] H (aF ?_ ?_ ?_ ?_ (aF ?_ (fq 4 (dU c0) O O) (fq 4 (dU c0) O O) (fq 4 (dU c0) O O) (aF (fq 4 (dU c0) O O) (fq 4 (dU c0) O O) (fq 4 (dU c0) O O) (fq 4 (dU c0) O O) (gN ?_ fB)))) ?_
 ·exact aO
 ·exact Dv
 ·exact Du
 ·exact NP
 ·exact NR
 ·exact MR
 clear H;intro a w G uX H hv;have H:=H.ak (hv 12 32 O O) O;clear hv;refine aB ⟨O,?_⟩;refine K3 _ _ ?_;clear K3;refine rD H O O ?_;refine kP H (Kc K2 (SR fun _ K1=>au K1 O ?_));clear H K2 K1;intro a H;refine lr H results83 O ?_;have hkl:=fun (h:k < l.length)=>gU h
 exact H.rt (by
  rw [ni,dh,<- hk]
  by_cases h:k < l.length
  ·exact Oq
  rw [List.getElem?_eq_none V] <;> first|rfl|exact absurd c0 V)
theorem DL:bD 89:=bH func89 O
theorem QA:bD 90:=bH func90 O
theorem yE:fu prog 170 0 0:=⟨Z⟩
theorem Ht:fu prog 170 2 2:=⟨Z⟩
theorem uh:Ty prog 4 1 1 [.bool false] false:=⟨Z,Z⟩
theorem tH:fu prog 170 3 3:=⟨Z⟩
theorem yF:fu prog 170 1 1:=⟨Z⟩
def DF (c:Int):Bool:=decide (c=1∨c=2∨c=3)
theorem DC (G:GH) (w0:World) (hG:Hold G w0) (c:Int):Calls prog 89 #[vi c] w0 (bK w0 G fun u G'=>u=.bool (DF c)∧G=G'):=by
 refine eN [(0,_)] func89 O ntmps89 O O hG ?_;intro a H;refine kP H (SR fun _ K1=>au K1 O (SR fun _ K2=>Rm O (Rc O (Rm O (Sp 5 O ?_ ?_))))) <;> clear H K1
 ·intro h5 a H
  try have p5:=dT h5
  exact kH H (aR h5 O (Pt h5 O (Rm O (aR O O (Pt O O (au K2 O (LR results89 O fun H=>H.rt ⟨by simp only [DF];congr 1;first|(rw [decide_eq_decide];omega)|(symm;rw [gG];omega)|(symm;rw [ng];omega),rfl⟩)))))))
 intro h5 a H
 try have p5:=dF h5
 refine kH H (YM h5 O (YC h5 O (Pf h5 O (Rm O (Sp 9 O ?_ ?_))))) <;> clear H
 ·intro h9 a H
  try have p9:=dT h9
  exact kH H (aR h9 O (Pt h9 O (au K2 O (LR results89 O fun H=>H.rt ⟨by simp only [DF];congr 1;first|(rw [decide_eq_decide];omega)|(symm;rw [gG];omega)|(symm;rw [ng];omega),rfl⟩))))
 intro h9 a H
 try have p9:=dF h9
 exact kH H (YM h9 O (YC h9 O (Pf h9 O (au K2 O (LR results89 O fun H=>H.rt ⟨by simp only [DF];congr 1;first|(rw [decide_eq_decide];omega)|(symm;rw [gG];omega)|(symm;rw [ng];omega),rfl⟩)))))
def pO (a b:Int):Bool:=decide ((a=8∧(b=8∨b=9∨b=11∨b=12))∨((a=11∨a=9)∧(b=9∨b=10))∨((a=12∨a=10)∧b=10))
theorem QZ (G:GH) (w0:World) (hG:Hold G w0) (a b:Int):Calls prog 90 #[vi a,vi b] w0 (bK w0 G fun u G'=>u=.bool (pO a b)∧G=G'):=by
 refine eN [(0,_),(1,_)] func90 O ntmps90 O O hG ?_;intro a H;refine kP H (SR fun _ K1=>au K1 O (SQ fun _ K2=>SR fun _ K3=>Rm O (Kz K3 (SB (SR fun _ K4=>Rc O (au K4 O (Cd O ?_ ?_))))))) <;> clear H K1 K3 K4
 ·intro h6 a H
  try have p6:=dT h6
  refine kP H (SR fun _ K1=>Rm O (Rc O (Rm O (Sp 10 O ?_ ?_)))) <;> clear H
  ·intro h10 a H
   try have nE:=dT h10
   exact kH H (aR h10 O (Pt h10 O (Rm O (aR O O (Pt O O (Rm O (aR O O (Pt O O (au K1 O (LR results90 O fun H=>H.rt ⟨by simp only [pO];congr 1;first|(rw [decide_eq_decide];omega)|(symm;rw [gG];omega)|(symm;rw [ng];omega),rfl⟩))))))))))
  intro h10 a H
  try have nE:=dF h10
  refine kH H (YM h10 O (YC h10 O (Pf h10 O (Rm O (Sp 14 O ?_ ?_))))) <;> clear H
  ·intro dQ a H
   try have jr:=dT dQ
   exact kH H (aR dQ O (Pt dQ O (Rm O (aR O O (Pt O O (au K1 O (LR results90 O fun H=>H.rt ⟨by simp only [pO];congr 1;first|(rw [decide_eq_decide];omega)|(symm;rw [gG];omega)|(symm;rw [ng];omega),rfl⟩)))))))
  intro dQ a H
  try have jr:=dF dQ
  refine kH H (YM dQ O (YC dQ O (Pf dQ O (Rm O (Sp 18 O ?_ ?_))))) <;> clear H
  ·intro h18 a H
   try have qJ:=dT h18
   exact kH H (aR h18 O (Pt h18 O (au K1 O (LR results90 O fun H=>H.rt ⟨by simp only [pO];congr 1;first|(rw [decide_eq_decide];omega)|(symm;rw [gG];omega)|(symm;rw [ng];omega),rfl⟩))))
  intro h18 a H
  try have qJ:=dF h18
  exact kH H (YM h18 O (YC h18 O (Pf h18 O (au K1 O (LR results90 O fun H=>H.rt ⟨by simp only [pO];congr 1;first|(rw [decide_eq_decide];omega)|(symm;rw [gG];omega)|(symm;rw [ng];omega),rfl⟩)))))
 intro h6 a H
 try have p6:=dF h6
 refine kP H (SQ fun _ K1=>SR fun _ K3=>Rc O (au K3 O (Cd O ?_ ?_))) <;> clear H K3
 ·intro h22 a H
  try have og:=dT h22
  refine kP H (Kc K1 (Ct O h22 (SR fun _ K3=>Rm O (Rc O (Rm O (Sp 27 O ?_ ?_)))))) <;> clear H K1
  ·intro h27 a H
   try have p27:=dT h27
   exact kH H (aR h27 O (Pt h27 O (au K3 O (LR results90 O fun H=>H.rt ⟨by simp only [pO];congr 1;first|(rw [decide_eq_decide];omega)|(symm;rw [gG];omega)|(symm;rw [ng];omega),rfl⟩))))
  intro h27 a H
  try have p27:=dF h27
  exact kH H (YM h27 O (YC h27 O (Pf h27 O (au K3 O (LR results90 O fun H=>H.rt ⟨by simp only [pO];congr 1;first|(rw [decide_eq_decide];omega)|(symm;rw [gG];omega)|(symm;rw [ng];omega),rfl⟩)))))
 intro h22 a H
 try have og:=dF h22
 refine kP H (SC (Rc O (cO K1 O (Cd O ?_ ?_)))) <;> clear H K1
 ·intro h22 a H
  try have og:=dT h22
  refine kP H (SR fun _ K1=>Rm O (Rc O (Rm O (Sp 27 O ?_ ?_)))) <;> clear H
  ·intro h27 a H
   try have p27:=dT h27
   exact kH H (aR h27 O (Pt h27 O (au K1 O (LR results90 O fun H=>H.rt ⟨by simp only [pO];congr 1;first|(rw [decide_eq_decide];omega)|(symm;rw [gG];omega)|(symm;rw [ng];omega),rfl⟩))))
  intro h27 a H
  try have p27:=dF h27
  exact kH H (YM h27 O (YC h27 O (Pf h27 O (au K1 O (LR results90 O fun H=>H.rt ⟨by simp only [pO];congr 1;first|(rw [decide_eq_decide];omega)|(symm;rw [gG];omega)|(symm;rw [ng];omega),rfl⟩)))))
 intro h22 a H
 try have og:=dF h22
 refine kP H (SQ fun _ K1=>SR fun _ K3=>Rc O (au K3 O (Cd O ?_ ?_))) <;> clear H K3
 ·intro h31 a H
  try have p31:=dT h31
  exact kP H (Kc K1 (Ct O h31 (SR fun _ K3=>Rm O (Rc O (au K3 O (LR results90 O fun H=>H.rt ⟨by simp only [pO];congr 1;first|(rw [decide_eq_decide];omega)|(symm;rw [gG];omega)|(symm;rw [ng];omega),rfl⟩))))))
 intro h31 a H
 try have p31:=dF h31
 refine kP H (SC (Rc O (cO K1 O (Cd O ?_ ?_)))) <;> clear H K1
 ·intro h31 a H
  try have p31:=dT h31
  exact kP H (SR fun _ K1=>Rm O (Rc O (au K1 O (LR results90 O fun H=>H.rt ⟨by simp only [pO];congr 1;first|(rw [decide_eq_decide];omega)|(symm;rw [gG];omega)|(symm;rw [ng];omega),rfl⟩))))
 intro h31 a H
 try have p31:=dF h31
 exact kP H (Kc K2 (SR fun _ K1=>au K1 O (LR results90 O fun H=>H.rt ⟨by simp only [pO];congr 1;first|(rw [decide_eq_decide];omega)|(symm;rw [gG];omega)|(symm;rw [ng];omega),rfl⟩)))
structure qh where
 before:Int
 picture:Bool
 Tk:Bool
 oh:Int
abbrev bM (b:Nat) (m:qh):Nat × Obj:=(b,.cells #[vi m.before,.bool m.picture,.bool m.Tk,vi m.oh] 170 (0,0))
def GD (m:qh) (b:Int):Bool :=
 if m.before=1∧b=2 then false
 else if (m.before=1∨m.before=2∨m.before=3)∨(b=1∨b=2∨b=3) then true
 else if ((m.before=8∧(b=8∨b=9∨b=11∨b=12))∨((m.before=11∨m.before=9)∧(b=9∨b=10))∨((m.before=12∨m.before=10)∧b=10))∨b=4∨b=5∨b=7∨m.before=6 then false
 else if m.before=5∧b=14∧m.Tk=true then false
 else if m.before=13∧b=13∧m.oh.tmod 2=1 then false
 else true
def oo (m:qh) (c:Int):qh:=⟨c,decide (c=14) || (decide (c=4) && m.picture),decide (c=5) && m.picture,if c=13 then m.oh+1 else 0⟩
theorem lN {p:Prop} (h:p:=by
 exact H.hp.kY ⟨O,O,by clear H;unfold GD;(repeat' split) <;> first|rfl|(exfalso;omega)|(exfalso;simp_all;done)⟩):p:=h
theorem Ou {p:Prop} (h:p:=by
 intro iq a H
 try have p39:=dT iq
 first
 | (exfalso;omega)
 | (exact absurd iq Y)
 | (exfalso;omega)
 |skip
  refine kH H (YM iq O (YC iq O (Pt iq O (Rm O (Sp 43 O ?_ ?_))))) <;> clear H
  ·intro h43 a H
   try have p43:=dT h43
   first
   | (exfalso;omega)
   | (exact absurd h43 Y)
   | (exfalso;omega)
   |skip
    refine kH H (YM h43 O ?_);clear H;intro a H;refine wW H (wg H O O h43) O O ?_;clear H;intro a H;refine kH H (YF Ht h43 O (YO uh 0 h43 O (Pt h43 O (au K1 O (Cd O ?_ ?_))))) <;> clear H K1
    ·intro tL a H
     try have p36:=dT tL
     first
     | (exfalso;omega)
     | (exact absurd tL Y)
     | (exfalso;omega)
     |skip
      refine kP H (SR fun _ K1=>au K1 O ?_);clear H K1;intro a H;refine lr H results84 O ?_
      exact lN
    intro tL a H
    try have p36:=dF tL
    first
    | (exfalso;omega)
    | (exact absurd tL Y)
    | (exfalso;omega)
    |skip
     refine kP H (SR fun _ K1=>Rm O (Rc O (Rm O (Sp 52 O ?_ ?_)))) <;> clear H
     ·intro dG a H
      try have p52:=dT dG
      first
      | (exfalso;omega)
      | (exact absurd dG Y)
      | (exfalso;omega)
      |skip
       refine kH H (YM dG O (YC dG O (Pt dG O (Rm O (Sp 56 O ?_ ?_))))) <;> clear H
       ·intro dS a H
        try have p56:=dT dS
        first
        | (exfalso;omega)
        | (exact absurd dS Y)
        | (exfalso;omega)
        |skip
         refine kH H (YM dS O ?_);clear H;intro a H;refine wW H (wg H O O dS) O O ?_;clear H;intro a H;refine kH H (YF tH dS O (YO aG 0 dS O ?_));clear H;intro a H;refine ER (m.oh.tmod 2) H (wg H O O dS) O O Y O O ?_;clear H;intro a H;refine kH H (YC dS O (Pt dS O (au K1 O (Cd O ?_ ?_)))) <;> clear H K1
         ·intro jP a H
          try have p49:=dT jP
          first
          | (exfalso;omega)
          | (exact absurd jP Y)
          | (exfalso;omega)
          |skip
           refine kP H (SR fun _ K1=>au K1 O ?_);clear H K1;intro a H;refine lr H results84 O ?_
           exact lN
         intro jP a H
         try have p49:=dF jP
         first
         | (exfalso;omega)
         | (exact absurd jP Y)
         | (exfalso;omega)
         |skip
          refine kP H (Kc K3 (SR fun _ K1=>au K1 O ?_));clear H K3 K1;intro a H;refine lr H results84 O ?_
          exact lN
       intro dS a H
       try have p56:=dF dS
       first
       | (exfalso;omega)
       | (exact absurd dS Y)
       | (exfalso;omega)
       |skip
        refine kH H (aU dS O (aU dS O (Pf dS O (au K1 O (Cf O O (Kc K3 (SR fun _ K2=>au K2 O ?_)))))));clear H K1 K3 K2;intro a H;refine lr H results84 O ?_
        exact lN
     intro dG a H
     try have p52:=dF dG
     first
     | (exfalso;omega)
     | (exact absurd dG Y)
     | (exfalso;omega)
     |skip
      refine kH H (aR dG O (Pf dG O (Rm O (aU O O (aU O O (Pf O O (au K1 O (Cf O O (Kc K3 (SR fun _ K2=>au K2 O ?_))))))))));clear H K1 K3 K2;intro a H;refine lr H results84 O ?_
      exact lN
  intro h43 a H
  try have p43:=dF h43
  first
  | (exfalso;omega)
  | (exact absurd h43 Y)
  | (exfalso;omega)
  |skip
   refine kH H (aR h43 O (aR h43 O (Pf h43 O (au K1 O (Cf O O (SR fun _ K2=>Rm O (Rc O (Rm O (Sp 52 O ?_ ?_))))))))) <;> clear H K1
   ·intro dG a H
    try have p52:=dT dG
    first
    | (exfalso;omega)
    | (exact absurd dG Y)
    | (exfalso;omega)
    |skip
     refine kH H (YM dG O (YC dG O (Pt dG O (Rm O (Sp 56 O ?_ ?_))))) <;> clear H
     ·intro dS a H
      try have p56:=dT dS
      first
      | (exfalso;omega)
      | (exact absurd dS Y)
      | (exfalso;omega)
      |skip
       refine kH H (YM dS O ?_);clear H;intro a H;refine wW H (wg H O O dS) O O ?_;clear H;intro a H;refine kH H (YF tH dS O (YO aG 0 dS O ?_));clear H;intro a H;refine ER (m.oh.tmod 2) H (wg H O O dS) O O Y O O ?_;clear H;intro a H;refine kH H (YC dS O (Pt dS O (au K2 O (Cd O ?_ ?_)))) <;> clear H K2
       ·intro jP a H
        try have p49:=dT jP
        first
        | (exfalso;omega)
        | (exact absurd jP Y)
        | (exfalso;omega)
        |skip
         refine kP H (SR fun _ K1=>au K1 O ?_);clear H K1;intro a H;refine lr H results84 O ?_
         exact lN
       intro jP a H
       try have p49:=dF jP
       first
       | (exfalso;omega)
       | (exact absurd jP Y)
       | (exfalso;omega)
       |skip
        refine kP H (Kc K3 (SR fun _ K1=>au K1 O ?_));clear H K3 K1;intro a H;refine lr H results84 O ?_
        exact lN
     intro dS a H
     try have p56:=dF dS
     first
     | (exfalso;omega)
     | (exact absurd dS Y)
     | (exfalso;omega)
     |skip
      refine kH H (aU dS O (aU dS O (Pf dS O (au K2 O (Cf O O (Kc K3 (SR fun _ K1=>au K1 O ?_)))))));clear H K2 K3 K1;intro a H;refine lr H results84 O ?_
      exact lN
   intro dG a H
   try have p52:=dF dG
   first
   | (exfalso;omega)
   | (exact absurd dG Y)
   | (exfalso;omega)
   |skip
    refine kH H (aR dG O (Pf dG O (Rm O (aU O O (aU O O (Pf O O (au K2 O (Cf O O (Kc K3 (SR fun _ K1=>au K1 O ?_))))))))));clear H K2 K3 K1;intro a H;refine lr H results84 O ?_
    exact lN):p:=h
theorem OD {p:Prop} (h:p:=by
 intro dG a H
 try have p52:=dT dG
 first
 | (exfalso;omega)
 | (exact absurd dG Y)
 | (exfalso;omega)
 |skip
  refine kH H (YM dG O (YC dG O (Pt dG O (Rm O (Sp 56 O ?_ ?_))))) <;> clear H
  ·intro dS a H
   try have p56:=dT dS
   first
   | (exfalso;omega)
   | (exact absurd dS Y)
   | (exfalso;omega)
   |skip
    refine kH H (YM dS O ?_);clear H;intro a H;refine wW H (wg H O O dS) O O ?_;clear H;intro a H;refine kH H (YF tH dS O (YO aG 0 dS O ?_));clear H;intro a H;refine ER (m.oh.tmod 2) H (wg H O O dS) O O Y O O ?_;clear H;intro a H;refine kH H (YC dS O (Pt dS O (au K2 O (Cd O ?_ ?_)))) <;> clear H K2
    ·intro jP a H
     try have p49:=dT jP
     first
     | (exfalso;omega)
     | (exact absurd jP Y)
     | (exfalso;omega)
     |skip
      refine kP H (SR fun _ K1=>au K1 O ?_);clear H K1;intro a H;refine lr H results84 O ?_
      exact lN
    intro jP a H
    try have p49:=dF jP
    first
    | (exfalso;omega)
    | (exact absurd jP Y)
    | (exfalso;omega)
    |skip
     refine kP H (Kc K3 (SR fun _ K1=>au K1 O ?_));clear H K3 K1;intro a H;refine lr H results84 O ?_
     exact lN
  intro dS a H
  try have p56:=dF dS
  first
  | (exfalso;omega)
  | (exact absurd dS Y)
  | (exfalso;omega)
  |skip
   refine kH H (aU dS O (aU dS O (Pf dS O (au K2 O (Cf O O (Kc K3 (SR fun _ K1=>au K1 O ?_)))))));clear H K2 K3 K1;intro a H;refine lr H results84 O ?_
   exact lN):p:=h
theorem uN {p:Prop} (h:p:=by
 intro aS a H
 try have gH:=dT aS
 first
 | (exfalso;omega)
 | (exact absurd aS Y)
 | (exfalso;omega)
 |skip
  refine kP H (Kc K1 (Ct O aS (SR fun _ K2=>au K2 O ?_)));clear H K1 K2;intro a H;refine lr H results84 O ?_
  exact lN):p:=h
theorem Gh {p:Prop} (h:p:=by
 | (exfalso;omega)
 |skip
  refine kP H (SR fun _ K1=>au K1 O ?_);clear H K1;intro a H;refine lr H results84 O ?_
  exact lN):p:=h
theorem Ox {p:Prop} (h:p:=by
 intro h20 a H
 try have qK:=dT h20
 first
 | (exfalso;omega)
 | (exact absurd h20 Y)
 | (exfalso;omega)
 |skip
  refine kH H (aR h20 O (Pt h20 O (au K1 O (Ct O O (SR fun _ K2=>au K2 O ?_)))));clear H K1 K2;intro a H;refine lr H results84 O ?_
  exact lN):p:=h
theorem Nw {p:Prop} (h:p:=by
 intro dH a H
 try have jY:=dT dH
 first
 | (exfalso;omega)
 | (exact absurd dH Y)
 exact Gh):p:=h
theorem Ny {p:Prop} (h:p:=by
 intro aS a H
 try have gH:=dT aS
 first
 | (exfalso;omega)
 | (exact absurd aS Y)
 exact Gh):p:=h
set_option maxHeartbeats 4000000 in
theorem WX {G:GH} {w0:World} {bm:Nat} (m:qh) (b:Int) (hO:jc G [bM bm m] w0) :
  Calls prog 84 #[(aD bm 0),vi b] w0 (jd w0 G [bM bm m] fun u G' L'=>G=G'∧L'=[bM bm m]∧u=.bool (GD m b)):=by
 refine lS (N:=64) (T:=[(0,_),(1,_)]) func84 O ntmps84 O O hO ?_;intro a H;refine kP H (SR fun _ K1=>au K1 O (SR fun _ K2=>Rm O (Rk O (fJ yE aG 0 O O (au K2 O (SQ fun _ K3=>SB (SR fun _ K4=>Rm O (Rc O (Rm O (Sp 13 O ?_ ?_)))))))))) <;> clear H K1 K2
 ·intro iW a H
  try have pR:=dT iW
  first
  | (exfalso;omega)
  | (exact absurd iW Y)
  | (exfalso;omega)
  |skip
   refine kH H (YM iW O (YC iW O (Pt iW O (au K4 O (Cd O ?_ ?_))))) <;> clear H K4
   ·intro h10 a H
    try have nE:=dT h10
    first
    | (exfalso;omega)
    | (exact absurd h10 Y)
    exact Gh
   intro h10 a H
   try have nE:=dF h10
   first
   | (exfalso;omega)
   | (exact absurd h10 Y)
   | (exfalso;omega)
   |skip
    refine kP H (SR fun _ K1=>Rm O ?_);clear H;intro a H;refine s_call DL H wn O (DC _ _ H.ro m.before) O ?_;clear H;rintro v19 _ a w ⟨rfl,rfl⟩ - H;refine kH H (Rm O (Sp 20 O ?_ ?_)) <;> clear H
    ·exact Ox
    intro h20 a H
    try have qK:=dF h20
    first
    | (exfalso;omega)
    | (exact absurd h20 Y)
    | (exfalso;omega)
    |skip
     refine kH H (YM h20 O ?_);clear H;intro a H;refine s_call DL H (wg H O O h20) O (DC _ _ H.ro b) O ?_;clear H;rintro v22 _ a w ⟨rfl,rfl⟩ - H;refine kH H (Pf h20 O (au K1 O (Cd O ?_ ?_))) <;> clear H K1
     ·exact Nw
     intro dH a H
     try have jY:=dF dH
     first
     | (exfalso;omega)
     | (exact absurd dH Y)
     | (exfalso;omega)
     |skip
      refine kP H (SQ fun _ K1=>SR fun _ K2=>Rm O (Rm O ?_));clear H;intro a H;refine s_call QA H wn O (QZ _ _ H.ro m.before b) O ?_;clear H;rintro v27 _ a w ⟨rfl,rfl⟩ - H;refine kH H (au K2 O (Cd O ?_ ?_)) <;> clear H K2
      ·exact uN
      intro aS a H
      try have gH:=dF aS
      first
      | (exfalso;omega)
      | (exact absurd aS Y)
      | (exfalso;omega)
      |skip
       refine kP H (SR fun _ K2=>Rm O (Rc O (au K2 O (Cd O ?_ ?_)))) <;> clear H K2
       ·exact uN
       intro aS a H
       try have gH:=dF aS
       first
       | (exfalso;omega)
       | (exact absurd aS Y)
       | (exfalso;omega)
       |skip
        refine kP H (SR fun _ K2=>Rm O (Rc O (au K2 O (Cd O ?_ ?_)))) <;> clear H K2
        ·exact uN
        intro aS a H
        try have gH:=dF aS
        first
        | (exfalso;omega)
        | (exact absurd aS Y)
        | (exfalso;omega)
        |skip
         refine kP H (SR fun _ K2=>Rm O (Rc O (au K2 O (Cd O ?_ ?_)))) <;> clear H K2
         ·exact uN
         intro aS a H
         try have gH:=dF aS
         first
         | (exfalso;omega)
         | (exact absurd aS Y)
         | (exfalso;omega)
         |skip
          refine kP H (SC (Rm O (Rc O (cO K1 O (Cd O ?_ ?_))))) <;> clear H K1
          ·exact Ny
          intro aS a H
          try have gH:=dF aS
          first
          | (exfalso;omega)
          | (exact absurd aS Y)
          | (exfalso;omega)
          |skip
           refine kP H (SR fun _ K1=>Rm O (Rc O (Rm O (Sp 39 O ?_ ?_)))) <;> clear H
           ·exact Ou
           intro iq a H
           try have p39:=dF iq
           first
           | (exfalso;omega)
           | (exact absurd iq Y)
           | (exfalso;omega)
           |skip
            refine kH H (aR iq O (Pf iq O (Rm O (aR O O (aR O O (Pf O O (au K1 O (Cf O O (SR fun _ K2=>Rm O (Rc O (Rm O (Sp 52 O ?_ ?_)))))))))))) <;> clear H K1
            ·exact OD
            intro dG a H
            try have p52:=dF dG
            first
            | (exfalso;omega)
            | (exact absurd dG Y)
            | (exfalso;omega)
            |skip
             refine kH H (aR dG O (Pf dG O (Rm O (aU O O (aU O O (Pf O O (au K2 O (Cf O O (Kc K3 (SR fun _ K1=>au K1 O ?_))))))))));clear H K2 K3 K1;intro a H;refine lr H results84 O ?_
             exact lN
 intro iW a H
 try have pR:=dF iW
 first
 | (exfalso;omega)
 | (exact absurd iW Y)
 | (exfalso;omega)
 |skip
  refine kH H (aR iW O (Pf iW O (au K4 O (Cf O O (SR fun _ K1=>Rm O ?_)))));clear H K4;intro a H;refine s_call DL H wn O (DC _ _ H.ro m.before) O ?_;clear H;rintro v19 _ a w ⟨rfl,rfl⟩ - H;refine kH H (Rm O (Sp 20 O ?_ ?_)) <;> clear H
  ·exact Ox
  intro h20 a H
  try have qK:=dF h20
  first
  | (exfalso;omega)
  | (exact absurd h20 Y)
  | (exfalso;omega)
  |skip
   refine kH H (YM h20 O ?_);clear H;intro a H;refine s_call DL H (wg H O O h20) O (DC _ _ H.ro b) O ?_;clear H;rintro v22 _ a w ⟨rfl,rfl⟩ - H;refine kH H (Pf h20 O (au K1 O (Cd O ?_ ?_))) <;> clear H K1
   ·exact Nw
   intro dH a H
   try have jY:=dF dH
   first
   | (exfalso;omega)
   | (exact absurd dH Y)
   | (exfalso;omega)
   |skip
    refine kP H (SQ fun _ K1=>SR fun _ K2=>Rm O (Rm O ?_));clear H;intro a H;refine s_call QA H wn O (QZ _ _ H.ro m.before b) O ?_;clear H;rintro v27 _ a w ⟨rfl,rfl⟩ - H;refine kH H (au K2 O (Cd O ?_ ?_)) <;> clear H K2
    ·exact uN
    intro aS a H
    try have gH:=dF aS
    first
    | (exfalso;omega)
    | (exact absurd aS Y)
    | (exfalso;omega)
    |skip
     refine kP H (SR fun _ K2=>Rm O (Rc O (au K2 O (Cd O ?_ ?_)))) <;> clear H K2
     ·exact uN
     intro aS a H
     try have gH:=dF aS
     first
     | (exfalso;omega)
     | (exact absurd aS Y)
     | (exfalso;omega)
     |skip
      refine kP H (SR fun _ K2=>Rm O (Rc O (au K2 O (Cd O ?_ ?_)))) <;> clear H K2
      ·exact uN
      intro aS a H
      try have gH:=dF aS
      first
      | (exfalso;omega)
      | (exact absurd aS Y)
      | (exfalso;omega)
      |skip
       refine kP H (SR fun _ K2=>Rm O (Rc O (au K2 O (Cd O ?_ ?_)))) <;> clear H K2
       ·exact uN
       intro aS a H
       try have gH:=dF aS
       first
       | (exfalso;omega)
       | (exact absurd aS Y)
       | (exfalso;omega)
       |skip
        refine kP H (SC (Rm O (Rc O (cO K1 O (Cd O ?_ ?_))))) <;> clear H K1
        ·exact Ny
        intro aS a H
        try have gH:=dF aS
        first
        | (exfalso;omega)
        | (exact absurd aS Y)
        | (exfalso;omega)
        |skip
         refine kP H (SR fun _ K1=>Rm O (Rc O (Rm O (Sp 39 O ?_ ?_)))) <;> clear H
         ·exact Ou
         intro iq a H
         try have p39:=dF iq
         first
         | (exfalso;omega)
         | (exact absurd iq Y)
         | (exfalso;omega)
         |skip
          refine kH H (aR iq O (Pf iq O (Rm O (aR O O (aR O O (Pf O O (au K1 O (Cf O O (SR fun _ K2=>Rm O (Rc O (Rm O (Sp 52 O ?_ ?_)))))))))))) <;> clear H K1
          ·exact OD
          intro dG a H
          try have p52:=dF dG
          first
          | (exfalso;omega)
          | (exact absurd dG Y)
          | (exfalso;omega)
          |skip
           refine kH H (aR dG O (Pf dG O (Rm O (aU O O (aU O O (Pf O O (au K2 O (Cf O O (Kc K3 (SR fun _ K1=>au K1 O ?_))))))))));clear H K2 K3 K1;intro a H;refine lr H results84 O ?_
           exact lN
theorem Ar {p:Prop} (h:p:=by
 exact H.hp.kY ⟨O,by simp [oo,*]⟩):p:=h
theorem Dl {p:Prop} (h:p:=by
 intro h31 a H
 try have p31:=dT h31
 first
 | (exfalso;omega)
 | (exact absurd h31 Y)
 | (exfalso;omega)
 |skip
  refine kP H (SC (Rm O (Rk O (fJ tH aG 0 O O (Rd O (Rk O (Rf tH O ?_)))))));clear H;intro a H;refine eZ aG 0 (vs:=[_]) H wn O ?_;clear H;intro w H;refine kH H (Kn K1 (SC (Rm O (Rm O (Rk O (Rf yE O ?_))))));clear H K1;intro a H;refine eZ aG 0 (vs:=[_]) H wn O ?_;clear H;intro w H;refine aB ?_;refine (leave0 H results85 ?_).2;exact Ar):p:=h
theorem OU {p:Prop} (h:p:=by
 intro h21 a H
 try have kN:=dT h21
 first
 | (exfalso;omega)
 | (exact absurd h21 Y)
 | (exfalso;omega)
 |skip
  refine kH H (YM h21 O ?_);clear H;intro a H;refine wW H (wg H O O h21) O O ?_;clear H;intro a H;refine kH H (YF yF h21 O (YO uh 0 h21 O (PT h18 h21 O (Pf h18 O (Rk O (Rf yF O ?_))))));clear H;intro a H;refine eZ uh 0 (vs:=[_]) H wn O ?_;clear H;intro w H;refine K1 _ _ ?_;clear K1;refine kP H (SQ fun _ K1=>SR fun _ K2=>Rm O (Rc O (Kz K2 (Cd O ?_ ?_)))) <;> clear H K2
  ·exact Dl
  intro h31 a H
  try have p31:=dF h31
  first
  | (exfalso;omega)
  | (exact absurd h31 Y)
  | (exfalso;omega)
  |skip
   refine kP H (SC (Rm O (Rk O (Rf tH O ?_))));clear H;intro a H;refine eZ aG 0 (vs:=[_]) H wn O ?_;clear H;intro w H;refine kH H (Kn K1 (SC (Rm O (Rm O (Rk O (Rf yE O ?_))))));clear H K1;intro a H;refine eZ aG 0 (vs:=[_]) H wn O ?_;clear H;intro w H;refine aB ?_;refine (leave0 H results85 ?_).2;exact Ar):p:=h
theorem OW {p:Prop} (h:p:=by
 intro h18 a H
 try have qJ:=dT h18
 first
 | (exfalso;omega)
 | (exact absurd h18 Y)
 | (exfalso;omega)
 |skip
  refine kH H (aU h18 O (Ku O (Ku O (Ku O (Ku O (Ks h18 O (Pt h18 O (Rk O (Rf yF O ?_)))))))));clear H;intro a H;refine eZ uh 0 (vs:=[_]) H wn O ?_;clear H;intro w H;refine K1 _ _ ?_;clear K1;refine kP H (SQ fun _ K1=>SR fun _ K2=>Rm O (Rc O (Kz K2 (Cd O ?_ ?_)))) <;> clear H K2
  ·exact Dl
  intro h31 a H
  try have p31:=dF h31
  first
  | (exfalso;omega)
  | (exact absurd h31 Y)
  | (exfalso;omega)
  |skip
   refine kP H (SC (Rm O (Rk O (Rf tH O ?_))));clear H;intro a H;refine eZ aG 0 (vs:=[_]) H wn O ?_;clear H;intro w H;refine kH H (Kn K1 (SC (Rm O (Rm O (Rk O (Rf yE O ?_))))));clear H K1;intro a H;refine eZ aG 0 (vs:=[_]) H wn O ?_;clear H;intro w H;refine aB ?_;refine (leave0 H results85 ?_).2;exact Ar):p:=h
theorem UE {G:GH} {w0:World} {bm:Nat} (m:qh) (c:Int) (hO:jc G [bM bm m] w0) (hr:0<=m.oh∧m.oh<=4294967296) :
  Calls prog 85 #[(aD bm 0),vi c] w0 (jd w0 G [bM bm m] fun u G' L'=>G=G'∧L'=[bM bm (oo m c)]):=by
 refine lS (N:=46) (T:=[(0,_),(1,_)]) func85 O ntmps85 O O hO ?_;intro a H;refine kP H (SR fun _ K1=>Rm O (Rm O (Rc O (Rm O (Sp 7 O ?_ ?_))))) <;> clear H
 ·intro h7 a H
  try have p7:=dT h7
  first
  | (exfalso;omega)
  | (exact absurd h7 Y)
  | (exfalso;omega)
  |skip
   refine kH H (YM h7 O ?_);clear H;intro a H;refine wW H (wg H O O h7) O O ?_;clear H;intro a H;refine kH H (YF yF h7 O (YO uh 0 h7 O (Pt h7 O (Rk O (Rf Ht O ?_)))));clear H;intro a H;refine eZ uh 0 (vs:=[_]) H wn O ?_;clear H;intro w H;refine K1 _ _ ?_;clear K1;refine kP H (SR fun _ K1=>Rm O (Rm O (Rc O (Rm O (Sp 18 O ?_ ?_))))) <;> clear H
   ·exact OW
   intro h18 a H
   try have qJ:=dF h18
   first
   | (exfalso;omega)
   | (exact absurd h18 Y)
   | (exfalso;omega)
   |skip
    refine kH H (YM h18 O (YC h18 O (YM h18 O (Sp 21 O ?_ ?_)))) <;> clear H
    ·exact OU
    intro h21 a H
    try have kN:=dF h21
    first
    | (exfalso;omega)
    | (exact absurd h21 Y)
    | (exfalso;omega)
    |skip
     refine kH H (aR h21 O (aR h21 O (PF h18 h21 O (Pf h18 O (Rk O (Rf yF O ?_))))));clear H;intro a H;refine eZ uh 0 (vs:=[_]) H wn O ?_;clear H;intro w H;refine K1 _ _ ?_;clear K1;refine kP H (SQ fun _ K1=>SR fun _ K2=>Rm O (Rc O (Kz K2 (Cd O ?_ ?_)))) <;> clear H K2
     ·exact Dl
     intro h31 a H
     try have p31:=dF h31
     first
     | (exfalso;omega)
     | (exact absurd h31 Y)
     | (exfalso;omega)
     |skip
      refine kP H (SC (Rm O (Rk O (Rf tH O ?_))));clear H;intro a H;refine eZ aG 0 (vs:=[_]) H wn O ?_;clear H;intro w H;refine kH H (Kn K1 (SC (Rm O (Rm O (Rk O (Rf yE O ?_))))));clear H K1;intro a H;refine eZ aG 0 (vs:=[_]) H wn O ?_;clear H;intro w H;refine aB ?_;refine (leave0 H results85 ?_).2;exact Ar
 intro h7 a H
 try have p7:=dF h7
 first
 | (exfalso;omega)
 | (exact absurd h7 Y)
 | (exfalso;omega)
 |skip
  refine kH H (aR h7 O (aR h7 O (Pf h7 O (Rk O (Rf Ht O ?_)))));clear H;intro a H;refine eZ uh 0 (vs:=[_]) H wn O ?_;clear H;intro w H;refine K1 _ _ ?_;clear K1;refine kP H (SR fun _ K1=>Rm O (Rm O (Rc O (Rm O (Sp 18 O ?_ ?_))))) <;> clear H
  ·exact OW
  intro h18 a H
  try have qJ:=dF h18
  first
  | (exfalso;omega)
  | (exact absurd h18 Y)
  | (exfalso;omega)
  |skip
   refine kH H (YM h18 O (YC h18 O (YM h18 O (Sp 21 O ?_ ?_)))) <;> clear H
   ·exact OU
   intro h21 a H
   try have kN:=dF h21
   first
   | (exfalso;omega)
   | (exact absurd h21 Y)
   | (exfalso;omega)
   |skip
    refine kH H (aR h21 O (aR h21 O (PF h18 h21 O (Pf h18 O (Rk O (Rf yF O ?_))))));clear H;intro a H;refine eZ uh 0 (vs:=[_]) H wn O ?_;clear H;intro w H;refine K1 _ _ ?_;clear K1;refine kP H (SQ fun _ K1=>SR fun _ K2=>Rm O (Rc O (Kz K2 (Cd O ?_ ?_)))) <;> clear H K2
    ·exact Dl
    intro h31 a H
    try have p31:=dF h31
    first
    | (exfalso;omega)
    | (exact absurd h31 Y)
    | (exfalso;omega)
    |skip
     refine kP H (SC (Rm O (Rk O (Rf tH O ?_))));clear H;intro a H;refine eZ aG 0 (vs:=[_]) H wn O ?_;clear H;intro w H;refine kH H (Kn K1 (SC (Rm O (Rm O (Rk O (Rf yE O ?_))))));clear H K1;intro a H;refine eZ aG 0 (vs:=[_]) H wn O ?_;clear H;intro w H;refine aB ?_;refine (leave0 H results85 ?_).2;exact Ar
theorem ext_size {s:ByteArray} {k:Nat}:(s.extract k s.size).size=s.size - k:=by simp
theorem Zp {s:ByteArray} {k:Nat} (h:k < s.size) (h2:0 < (s.extract k s.size).size):(s.extract k s.size)[0]'h2=s[k]:=by
 rw [ByteArray.getElem_extract];rfl
theorem Zq {s:ByteArray} {k:Nat} (h:k<=s.size):(s.extract k s.size).extract 1 (s.extract k s.size).size=s.extract (k+1) s.size:=by
 rw [ext_size,ByteArray.extract_extract]
 congr 1
 omega
theorem afC (G:GH) (w0:World) (hG:Hold G w0) (s:ByteArray) (hs:s.size<=8) (ha:∀ i (h:i < s.size),s[i].toNat < 128):Calls prog 72 #[.string s] w0 (bK w0 G fun u G'=>u=.bool true∧G=G'):=by
 refine eN [(0,_)] func72 O ntmps72 O O hG ?_;intro a H;refine kP H (SR fun _ K1=>Ra O ?_);clear H;intro a H;rw [show Value.string s=Value.string (s.extract 0 s.size) by rw [ByteArray.extract_zero_size]] at H;refine K1 _ _ ?_;clear K1;refine fT (fun _ K1=>?_);refine uP ?_;skip;refine dz (ι:=Nat) (Tc:=[]) (Lc:=[]) (fun gh=>[(0,.string (s.extract gh s.size))]) (fun gh=>[]) (fun gh=>G) (fun gh=>gh<=s.size) (fun gh=>s.size - gh) (0) (by exact H.sub ⟨O,aH⟩) ?_ ?_
 ·exact dO _
 clear H;intro k a w hI H;skip;dsimp only [lca,bR] at H;refine kP H (SQ fun _ K2=>SR fun _ K3=>Rm O (Rv iH O ?_));clear H;intro a H;rw [ext_size] at H;refine kH H (Rc O (Kz K3 (Cd O ?_ ?_))) <;> clear H K3
 ·intro h9 a H
  try have p9:=dT h9
  have hk:k < s.size:=by omega
  have hb:=Zp (s:=s) (k:=k) hk (by rw [ext_size];omega);have hb2:=ha k hk;refine kP H (Kc K2 (SB (SR fun _ K3=>Rm O ?_)));clear H K2;intro a H;refine wU 0 iH H wn O O O (by rw [ext_size];omega) rfl ?_;clear H;intro a H;rw [hb] at H;refine kH H (au K3 O (SQ fun _ K2=>SR fun _ K4=>Rm O (Rc O (Kz K4 (Cd O ?_ ?_))))) <;> clear H K3 K4
  ·intro iW a H
   try have pR:=dT iW
   refine kP H (SR fun _ K3=>Rm O ?_);clear H;intro a H;refine Ub 1 iH H wn O O O (by rw [ext_size];omega) rfl ?_;clear H;intro a H;rw [Zq V] at H;refine kH H (au K3 O (SQ fun _ K4=>SR fun _ K5=>Rm O (Rv iH O ?_)));clear H K3;intro a H;rw [ext_size] at H;refine kH H (Rc O (Rm O (Sp 19 O ?_ ?_))) <;> clear H
   ·intro h19 a H
    try have EB:=dT h19
    exact absurd EB V
   intro h19 a H
   try have EB:=dF h19
   refine kH H (aR h19 O (aR h19 O (Pf h19 O (Kz K5 (Cf O O (Kc K4 ?_))))));clear H K5 K4;intro a H;refine bQ ?_;refine aX ((k+1)) (by exact H.sub ⟨O,aH⟩) ?_
   omega
  intro iW a H
  try have pR:=dF iW
  exact absurd pR V
 intro h9 a H
 refine bQ ?_;refine K1 _ _ ?_;clear K1;exact kP H (SR fun _ K1=>au K1 O (LR results72 O fun H=>H.rt ⟨O,O⟩))
def U3:Go.Shelf.Ren:=⟨fun|196=>72|259=>80|n=>n,fun|0=>0|3=>3|4=>4|5=>5|9=>9|12=>12|46=>136|53=>175|119=>162|138=>164|139=>165|n=>n,fun|3=>0|4=>1|n=>n⟩
theorem U2:Go.Proofs.Lays.n196 prog U3 where
 mixed:=by kernel_rfl
 f196:=func72.trans (ko some Z)
 f259:=func80.trans (ko some Z)
 t0:=underlying0
 a0:=isAgg0
 z0:=sizeOf0
 v0:=zeroValue0
 t3:=underlying3
 a3:=isAgg3
 z3:=sizeOf3
 v3:=zeroValue3
 t4:=underlying4
 a4:=isAgg4
 z4:=sizeOf4
 v4:=zeroValue4
 t5:=underlying5
 a5:=isAgg5
 z5:=sizeOf5
 v5:=zeroValue5
 t9:=underlying9
 a9:=isAgg9
 z9:=sizeOf9
 v9:=zeroValue9
 t12:=underlying12
 a12:=isAgg12
 z12:=sizeOf12
 v12:=zeroValue12
 t46:=underlying136
 a46:=isAgg136
 z46:=sizeOf136
 v46:=zeroValue136
 t53:=underlying175
 a53:=isAgg175
 z53:=sizeOf175
 v53:=zeroValue175
 t119:=underlying162
 a119:=isAgg162
 z119:=sizeOf162
 t138:=underlying164
 a138:=isAgg164
 z138:=sizeOf164
 v138:=zeroValue164
 t139:=underlying165
 a139:=isAgg165
 z139:=sizeOf165
 v139:=zeroValue165
 g3:=by kernel_rfl
 g4:=by kernel_rfl
structure sH (G:GH):Prop where
 first:∀ c,c < 256->aQ G 0 c=some (.int .u8 (Go.Lib.firstT c))
 acc:∀ i,i < 16->aQ G 1 (2*i)=some (.int .u8 (Go.Lib.accLo i))∧aQ G 1 (2*i+1)=some (.int .u8 (Go.Lib.accHi i))
theorem sH.at {G:GH} {w:World} (h:sH G) (hG:Hold G w):Go.Lib.Utf8Tabs 0 1 w:=by
 have hp:∀ b o v,aQ G b o=some v->w.cell? ⟨b,o,none⟩=some v:=fun b o v hv=>by
  unfold aQ at hv
  split at hv
  ·rename_i c e f he
   simp only [World.cell?,hG b _ he]
   exact hv
  cases hv
 exact ⟨fun c hc=>hp _ _ _ (h.first c hc),fun i hi=>⟨hp _ _ _ (h.acc i hi).1,hp _ _ _ (h.acc i hi).2⟩⟩
theorem afF (G:GH) (w0:World) (hG:Hold G w0) (ht:sH G) (s:ByteArray) (hs:s.size<=1073741824):Calls prog 72 #[.string s] w0 (bK w0 G fun u G'=>u=.bool (Go.Lib.validD s.data.toList)∧G=G'):=by
 have h:=Any.utf8_ValidString U2 s w0 V (ht.at hG);refine Calls.mono h ?_;rintro e w' ⟨rfl,hb⟩;refine ⟨_,G,O,hb,⟨fun _ _ h=>h,fun _ _ h=>.inl h,fun k o hk=>?_⟩,O,O⟩;have h1:=hG k o hk;rw [hb.block k (Array.getElem?_eq_some_iff.1 h1).1];exact h1
section
section
variable {P:Program} {N:Nat} {D:List Deferred} {w0 w w':World} {F:Nat->Prop} {G0 G G':GH} {L L' Li Lo:OL} {T:List (Nat × aj)} {a a':Act} {Q:Exit->Act->World->Prop}
theorem St.cast (h:St N D w0 F G0 G L T a w) (e:L=L'):St N D w0 F G0 G L' T a w:=e ▸ h
theorem St.assoc {A B C:OL} (h:St N D w0 F G0 G ((A++B)++C) T a w):St N D w0 F G0 G (A++(B++C)) T a w:=h.cast (lK _ _ _)
theorem St.un {A B C:OL} (h:St N D w0 F G0 G (A++(B++C)) T a w):St N D w0 F G0 G ((A++B)++C) T a w:=h.cast (lK _ _ _).symm
theorem Xk {ι κ:Type} {Lc:OL} {qC:Operand} {ps:List Nat} {assign body:Code} {gf:FuncId} {caps:List aj} {xs:List AP} {Gi:GH}
  (Lv:Nat->ι->OL) (Lt:Nat->ι->OL) (inv:Nat->ι->GH->Prop) (cx:κ->Code) (Lx vL:κ->OL) (qG:κ->GH->Prop) (i0:ι)
  (H:St N D w0 F G0 G (Lc++Lv 0 i0++Lt 0 i0) T a w) (hg:ev T qC=some (.func (.func gf) #[] caps.toArray)) (en:∀ args w,(callFunc gf args).run P w=.ok (.enter gf args) w) (hit:Iter P Gi (.func (.func gf) #[] caps.toArray) xs) (hGi:∀ b o,Gi b=some o->G b=some o)
  (hps:ps.all (Nat.blt · N)=true) (hlen:∀ k args g,pY xs k args g->args.length=ps.length) (hinv:∀ k i (G G':GH),(∀ b o,G b=some o->G' b=some o)->inv k i G->inv k i G') (IV:∀ x (G G':GH),(∀ b o,G b=some o->G' b=some o)->qG x G->qG x G') (h0:inv 0 i0 G)
  (round:∀ (l:Nat) (wP sZ:Obj) (bk:OL) (k:Nat) (args:List aj) (i:ι) (G1:GH) (w1:World) (F1:Nat->Prop) (B1:Code->Exit->Act->World->Prop) (a1:Act),pY xs k args G1->(∀ b o,G b=some o->G1 b=some o)->inv k i G1 ->
   (∀ T' G2 L2 a2 w2 c,St N [] w1 F1 G1 G2 ((l,wP) :: L2) T' a2 w2->(∀ w3,St N [] w1 F1 G1 G2 ((l,sZ) :: L2) T' a2 w3->WP (some l) P c (B1 c) a2 w3)->Exit.then (fun a2 w2=>∃ w3,(Instr.beginRound l).run P w2=.ok () w3∧c.wpIn (FW (some l)) 0 P (B1 c) a2 w3) (fun _ _ _=>False) .normal a2 w2) ->
   (∀ i' T' G2 a2 w2 c,St N [] w1 F1 G1 G2 ((l,sZ) :: (Lc++Lv (k+1) i'++(bk++Lt (k+1) i'))) T' a2 w2->inv (k+1) i' G2->B1 c .normal a2 w2) ->
   (∀ x T' G2 a2 w2 c,St N [] w1 F1 G1 G2 ((l,sZ) :: (Lc++Lx x++(bk++vL x))) T' a2 w2->qG x G2->(cx x=.ret->B1 c .ret a2 w2)∧∀ n,cx x=.exit n->B1 c (.exit n) a2 w2) ->
   St N [] w1 F1 G1 G1 ((l,wP) :: (Lc++Lv k i++(bk++Lt k i))) (ru ps args T) a1 w1 ->
   WP (some l) P assign (Exit.then (fun a2 w2=>∃ w3,(Instr.beginRound l).run P w2=.ok () w3∧body.wpIn (FW (some l)) 0 P (B1 body) a2 w3) (fun _ _ _=>False)) a1 w1)
  (hdone:∀ Dk i G1 a1 w1,(∀ b o,G b=some o->G1 b=some o)->inv xs.length i G1->St N ({ target:=.collected Dk,args:=#[] } :: D) w0 F G0 G1 ((Dk,.deferred (some [])) :: (Lc++Lv xs.length i++Lt xs.length i)) T a1 w1->Q .normal a1 w1)
  (hstop:∀ Dk x G1 a1 w1,(∀ b o,G b=some o->G1 b=some o)->qG x G1->St N ({ target:=.collected Dk,args:=#[] } :: D) w0 F G0 G1 ((Dk,.deferred (some [])) :: (Lc++Lx x++vL x)) T a1 w1->WP none P (cx x) Q a1 w1) :
  WP none P (.rangeFunc qC ps.toArray assign body) Q a w:=by
 refine Xj (J:=fun k g L=>∃ i,L=Lc++Lv k i++Lt k i∧inv k i g) (Jx:=fun c g L=>∃ x,c=cx x∧L=Lc++Lx x++vL x∧qG x g) H hg en hit hGi hps hlen (fun k G G' L hm ⟨i,e,h⟩=>⟨i,e,hinv k i G G' hm h⟩) (fun c G G' L hm ⟨x,e1,e2,h⟩=>⟨x,e1,e2,IV x G G' hm h⟩) ⟨i0,O,h0⟩ ?_ ?_ ?_
 ·rintro l q bk k args G1 L1 w1 a1 hk hm ⟨i,rfl,hi⟩ H1
  have pm:∀ A B:OL,(bk++(A++B)).Perm (A++(bk++B)):=fun A B=>by
   rw [<- lK,<- lK]
   exact List.Perm.append_right B List.perm_append_comm
  refine round l (q.at .ready none) (q.at .busy none) bk k args i G1 w1 _ (fun _=>roundPost P l _) a1 hk hm hi ?_ ?_ ?_ (H1.perm (List.Perm.cons _ (pm _ _)))
  ·intro T' G2 L2 a2 w2 c H2 h
   exact Pq H2 h
  ·intro i' T' G2 a2 w2 c H2 h2
   exact zD none (H2.perm (List.Perm.cons _ (pm _ _).symm)) ⟨_,O,i',O,h2⟩
  ·intro x T' G2 a2 w2 c H2 h2
   have H3:=H2.perm (List.Perm.cons _ (pm _ _).symm)
   refine ⟨fun e=>?_,fun n e=>?_⟩
   ·exact zD (some .ret) H3 ⟨_,_,O,x,e.symm,O,h2⟩
   ·exact zD (some (.exit n)) H3 ⟨_,_,O,x,e.symm,O,h2⟩
 ·rintro Dk G1 L1 a1 w1 hm ⟨i,rfl,hi⟩ H1
  exact hdone Dk i G1 a1 w1 hm hi H1
 ·rintro Dk c G1 L1 a1 w1 hm ⟨x,rfl,rfl,hx⟩ H1
  exact hstop Dk x G1 a1 w1 hm hx H1
end
end
theorem Zc:bD 82:=bH func82 O
theorem iZ:Ty prog 9 1 16 [.string ⟨#[]⟩] false:=⟨Z,Z⟩
theorem KQ:prog.underlying 21=some (.int .i32):=by kernel_rfl
theorem Zd:bD 83:=bH func83 O
theorem Ze:bD 84:=bH func84 O
theorem KP:prog.underlying 155=some (.array 2 3):=by kernel_rfl
theorem Qx:bD 85:=bH func85 O
theorem afp:Ty prog 170 4 24 [.int .i64 0,.bool false,.bool false,.int .i64 0] true:=⟨Z,Z⟩
theorem Y6:bD 72:=bH func72 O
theorem Y7:bD 73:=bH func73 O
theorem Qw:bD 81:=bH func81 O
theorem U0:Ty prog 155 2 16 [.int .i64 0,.int .i64 0] true:=⟨Z,Z⟩
theorem adf {s:ByteArray} {f p:Nat} (hf:s.size - p<=f) (h:p < s.size):iY s f p=(p,(Utf8.decode s p).1) :: iY s (f - 1) (p+(Utf8.decode s p).2):=by
 match f,hf with
 | 0,hf=>omega
 | f+1,_=>rw [iY,aM h];rfl
theorem ade {s:ByteArray} {f p:Nat} (h:¬ p < s.size):iY s f p=[]:=by
 match f with
 | 0=>rfl
 | f+1=>rw [iY,aL h]
theorem decode_le (s:ByteArray) (p:Nat):(Utf8.decode s p).1<=2097151:=by
 simp only [Utf8.decode,Utf8.runeError]
 repeat' split
 all_goals (dsimp only;omega)
theorem XZ (s:ByteArray) (p:Nat):(Utf8.decode s p).2<=4:=by
 simp only [Utf8.decode]
 repeat' split
 all_goals simp
theorem Kv {m:qh} {c:Int} {u:Nat} (h:0<=m.oh∧m.oh<=(u:Int)):0<=(oo m c).oh∧(oo m c).oh<=((u+1:Nat):Int):=by
 simp only [oo];split <;> omega
def mG (size:Nat):List (Nat × Nat)->Nat->Nat->Nat->qh->List (Nat × Nat × Nat × Nat)
 | [],unit,from_,start,_=>if 0 < unit then [(from_,unit,start,size)] else []
 | x :: l,unit,from_,start,m =>
  if 0 < unit∧GD m (ni qB x.2)=true then (from_,unit,start,x.1) :: mG size l (unit+1) unit x.1 (oo m (ni qB x.2))
  else mG size l (unit+1) from_ start (oo m (ni qB x.2))
def kJ (s:ByteArray):List (Nat × Nat × Nat × Nat):=mG s.size (eD s) 0 0 0 ⟨0,false,false,0⟩
def AO (s:ByteArray) (x:Nat × Nat × Nat × Nat):AP:=fun args _=>args=[.agg #[vi x.1,vi x.2.1],.string (s.extract x.2.2.1 x.2.2.2)]
theorem OC {p:Prop} (h:p:=by
 obtain ⟨p,hp,hargs⟩:=h;rw [oD] at hp;obtain ⟨q,hq,rfl⟩:=kR.1 hp;obtain ⟨hk,rfl⟩:=fV.1 hq;exact ⟨hk,hargs⟩):p:=h
theorem PS {s:ByteArray} {A:List (Nat × Nat × Nat × Nat)} {k:Nat} {args:List aj} {g:GH} (h:pY (A.map (AO s)) k args g):∃ (hk:k < A.length),args=[.agg #[vi A[k].1,vi A[k].2.1],.string (s.extract A[k].2.2.1 A[k].2.2.2)]:=by
 exact OC
theorem FY {p:Prop} (h:p:=by
 first
  | (have H:=H.perm (zx [_] [] [_] xE)
     refine jR Qx (Li:=[_]++([]++xE)) (L:=[_]) H wn O (UE m c (Hp.owns (Li:=[_]++([]++xE)) H.hp) ⟨V,V⟩) O ?_;clear H;rintro v41 _ _ a w ⟨rfl,rfl⟩ - H
     have H:=H.perm (zx [_] [] [_] xE).symm)
  | (have H:=H.perm (zx [_] [] [_] Lt)
     refine jR Qx (Li:=[_]++([]++Lt)) (L:=[_]) H wn O (UE m c (Hp.owns (Li:=[_]++([]++Lt)) H.hp) ⟨V,V⟩) O ?_;clear H;rintro v41 _ _ a w ⟨rfl,rfl⟩ - H
     have H:=H.perm (zx [_] [] [_] Lt).symm)):p:=h
theorem Mh {p:Prop} (h:p:=by
 exact ⟨V,V,V,V,V,V,Ep,fun b o h=>oK b o (hgm b o h),rM _ _ _ _ oK iQ.now,iQ.rem,iQ.len⟩):p:=h
theorem Mi {p:Prop} (h:p:=by
 first
  | (refine H.hp.zy (L':=VP) (by repeat (first|exact List.Sublist.refl _|apply List.Sublist.cons)) ?_
     cases CU
     · exact .inr (hb2 O)
     have vk:=iQ.step (hb1 O);have h:=vk.len
     simp only [List.length_nil,qm] at h
     refine .inl ?_;rw [bG,<- h]
     exact vk.now)
  | (refine H.hp.zy (L':=Lt) (by repeat (first|exact List.Sublist.refl _|apply List.Sublist.cons)) (.inl ?_)
     have h:=iQ.len
     simp only [List.length_nil,qm] at h
     rw [bG,<- h]
     exact iQ.now)):p:=h
set_option maxHeartbeats 2000000 in
theorem XG {G:GH} {bd:Nat} {s:ByteArray} (hb:aQ G bd 0=some (.string s)) (hz:s.size<=1073741824) :
    Iter prog G (.func (.func 81) #[] #[(aD bd 0)]) ((kJ s).map (AO s)):=by
  intro J Jx fv G1 L w0 hfv hGi rM hJx hJ hO hcb;refine rE (caps:=[(aD bd 0)]) Qw ?_;replace hb:=aK hGi hb;refine lS (N:=54) (T:=[(0,_),(1,_)]) func81 O ntmps81 O O hO ?_;intro a H;refine iV (fun _ K1=>?_);refine s_call Zc H wn O (ZT _ _ H.ro) O ?_;clear H;rintro v11 zY a w hgt oJ H;replace hb:=aK oJ hb;refine kH H (au K1 O (SR fun _ K2=>?_));clear H K1;intro a H;refine jv afp H wn O ?_;clear H;intro b4 a w hb4 H;refine K2 _ _ ?_;clear K2;refine kP H (SR fun _ K1=>Ra O (Ra O (au K1 O (SQ fun _ K2=>SR fun _ K3=>Rg iZ O hb ?_))));clear H K1;intro a H;refine adR iH H wn O O ?_;clear H;intro b13 a w agE H;refine K3 _ _ ?_;clear K3;refine uP ?_;skip;refine dz (ι:=Nat × Nat × Nat × Nat × Nat × qh × Nat × OL × GH) (Tc:=[(0,_),(1,_),(3,_),(4,_),(13,_)]) (Lc:=[]) (fun gh=>[(5,vi gh.2.2.1),(6,vi gh.2.2.2.1),(7,vi gh.2.2.2.2.1)]) (fun gh=>[(b13,.stringIter s gh.1),bM b4 gh.2.2.2.2.2.1]++gh.2.2.2.2.2.2.2.1) (fun gh=>gh.2.2.2.2.2.2.2.2) (fun gh=>s.size - gh.1<=gh.2.1∧gh.2.2.1<=gh.1∧gh.1<=s.size+8∧gh.2.2.2.1<=gh.2.2.1∧gh.2.2.2.2.1<=gh.1∧gh.2.2.2.2.1<=s.size∧(0<=gh.2.2.2.2.2.1.oh∧gh.2.2.2.2.2.1.oh<=gh.2.2.1)∧(∀ b o,zY b=some o->gh.2.2.2.2.2.2.2.2 b=some o)∧Now ((kJ s).map (AO s)) (AO s) J (kJ s).length gh.2.2.2.2.2.2.1 (mG s.size (iY s gh.2.1 gh.1) gh.2.2.1 gh.2.2.2.1 gh.2.2.2.2.1 gh.2.2.2.2.2.1) gh.2.2.2.2.2.2.2.2 gh.2.2.2.2.2.2.2.1) (fun gh=>s.size+8 - gh.1) ((0,s.size,0,0,0,⟨0,false,false,0⟩,0,L,zY)) (by exact H.sub ⟨O,O,O,O,O,O,O,O,aH⟩) ?_ ?_
  · exact ⟨by rw [Nat.sub_zero];exact aV _,aV _,dO _,aV _,aV _,dO _,⟨Int.le_refl _,Int.le_refl _⟩,fun _ _ h=>h,⟨rM _ _ _ _ oJ hJ,fun i a h=>by rw [eP,oD];rw [show mG s.size (iY s s.size 0) 0 0 0 ⟨0,false,false,0⟩=kJ s from rfl] at h;rw [h];rfl,by show 0+(kJ s).length=_;omega⟩⟩
  clear H;rintro ⟨pos,f,unit,from_,start,m,j1,Lt,g⟩ a w hI H;dsimp only at hI H;obtain ⟨hf,hup,hpos,hfr,hst,BK,Jl,hgm,iQ⟩:=hI;dsimp only [lca,bR] at H;refine iV (fun _ K1=>?_);refine adO (i:=0) H wn O O O ?_;clear H;intro a w H;dsimp only [List.set] at H;refine fG H wn O acH O ?_;clear H;intro a H;refine K1 _ _ ?_;clear K1;refine kP H (SQ fun _ K1=>Cd O ?_ ?_) <;> clear H
  · intro jg a H
    try have nG:=dT jg
    rw [S9 nG,SY nG] at H;rw [adf hf nG,mG] at iQ;have hd1:=XY s pos;have hd2:=decode_le s pos;obtain ⟨r,hr⟩:∃ r,r=(Utf8.decode s pos).1:=⟨_,O⟩;obtain ⟨wd,hwd⟩:∃ wd,wd=(Utf8.decode s pos).2:=⟨_,O⟩;rw [<- hr] at hd2;rw [<- hr,<- hwd] at H iQ;rw [<- hwd] at hd1;obtain ⟨c,hc⟩:∃ c,c=ni qB (r:Int):=⟨_,O⟩;dsimp only at iQ;rw [<- hc] at iQ
    have aht:wd<=4:=by rw [hwd];exact XZ s pos
    refine kP H (Kc K1 (SB (SR fun _ K3=>?_)));clear H K1;intro a H;(iterate 2 refine fG H wn O O O ?_;clear H;intro a H);refine kH H (Ra O (au K3 O (SR fun _ K1=>Rm O (Rm O ?_))));clear H K3;intro a H;refine vD ((r:Nat):Int) um KQ H wn O (tQ V V) O ?_;clear H;intro a H;refine s_call Zd H wn O (XB _ _ H.ro qB r _ (hgt.mono hgm) Y ⟨V,V⟩) O ?_;clear H;rintro v21 vK a w rfl oK H;rw [<- hc] at H;refine kH H (au K1 O (SQ fun _ K3=>SR fun _ K4=>Rm O (Rc O (Rm O (Sp 24 O ?_ ?_))))) <;> clear H K1
    · intro aS a H
      try have gH:=dT aS
      refine kH H (YM aS O ?_);clear H;intro a H;have H:=H.perm (zx [_] [] [_] Lt);refine jR Ze (Li:=[_]++([]++Lt)) (L:=[_]) H (wg H O O aS) O (WX m c (Hp.owns (Li:=[_]++([]++Lt)) H.hp)) O ?_;clear H;rintro v26 _ _ a w ⟨rfl,rfl,rfl⟩ - H;have H:=H.perm (zx [_] [] [_] Lt).symm;dsimp only [List.nil_append,List.cons_append] at H;refine kH H (Pt aS O (Kz K4 (Cd O ?_ ?_))) <;> clear H K4
      · intro h27 a H
        try have p27:=dT h27
        rw [aM ⟨V,h27⟩] at iQ;refine kP H (SQ fun _ K1=>SR fun _ K4=>Rm O (Rm O (Rm O ?_)));clear H;intro a H;refine TR (z:=[.int .i64 0,.int .i64 0]) KP aG Z [_,_] H wn O O (fun i q h=>by match i,h with|0,h=>exact h|1,h=>exact h|n+2,h=>simp at h) O O ?_;clear H;intro a H;refine kH H (Rg iZ O (aK oK (aK hgm hb)) (Rm O (Rm O ?_)));clear H;intro a H;refine Uc start pos iH H wn O O O O O V V O ?_;clear H;intro a H;refine zG (Li:=[_,_]) (L:=Lt) H wn O O (hcb j1 _ _ _ _ ⟨_,iQ.head,O⟩ (fun b o h=>oK b o (hgm b o (oJ b o h))) (rM _ _ _ _ oK iQ.now) (Hp.owns (Li:=[_,_]) H.hp)) O ?_;clear H;rintro v36 LG xE a w ⟨b36,rfl,hb1,hb2⟩ Rx H;refine kH H (Rn O (Kz K4 (Cd O ?_ ?_))) <;> clear H K4
        · intro h37 a H
          try have p37:=dT h37
          refine bN ?_;refine (leave0 H results81 ?_).1;exact H.hp.zy (L':=xE) (by repeat (first|exact List.Sublist.refl _|apply List.Sublist.cons)) (.inr (hb2 (by simpa using h37)))
        intro h37 a H
        try have p37:=dF h37
        have vk:=iQ.step (hb1 (by simpa using h37));refine kP H (Kc K1 (SC (Rm O (Rm O (Ra O (cO K3 O (SR fun _ K4=>Rm O ?_)))))));clear H K1 K3;intro a H
        exact FY
        dsimp only [List.nil_append,List.cons_append] at H;have Ep:=Kv (m:=m) (c:=c) Jl;refine K4 _ _ ?_;clear K4;refine kP H (SC (Rm O (Rd O (Ra O ?_))));clear H;intro a H;refine aB ?_;refine aX ((pos+wd,f - 1,unit+1,unit,pos,oo m c,j1+1,xE,LG)) (by exact H.sub ⟨O,O,O,O,O,O,O,O,aH⟩) ?_
        (try dsimp only);exact ⟨V,V,V,V,V,V,Ep,fun b o h=>Rx b o (oK b o (hgm b o h)),vk⟩
      intro h27 a H
      try have p27:=dF h27
      rw [aL (fun h=>absurd h.2 (by rw [h27];decide))] at iQ;refine kP H (Kc K3 (SR fun _ K1=>Rm O ?_));clear H K3;intro a H
      exact FY
      dsimp only [List.nil_append,List.cons_append] at H;have Ep:=Kv (m:=m) (c:=c) Jl;refine K1 _ _ ?_;clear K1;refine kP H (SC (Rm O (Rd O (Ra O ?_))));clear H;intro a H;refine aB ?_;refine aX ((pos+wd,f - 1,unit+1,from_,start,oo m c,j1,Lt,vK)) (by exact H.sub ⟨O,O,O,O,O,O,O,O,aH⟩) ?_
      (try dsimp only);exact Mh
    intro aS a H
    try have gH:=dF aS
    rw [aL (fun h=>gH V)] at iQ;refine kH H (aR aS O (Pf aS O (Kz K4 (Cf O O (Kc K3 (SR fun _ K1=>Rm O ?_))))));clear H K4 K3;intro a H
    exact FY
    dsimp only [List.nil_append,List.cons_append] at H;have Ep:=Kv (m:=m) (c:=c) Jl;refine K1 _ _ ?_;clear K1;refine kP H (SC (Rm O (Rd O (Ra O ?_))));clear H;intro a H;refine aB ?_;refine aX ((pos+wd,f - 1,unit+1,from_,start,oo m c,j1,Lt,vK)) (by exact H.sub ⟨O,O,O,O,O,O,O,O,aH⟩) ?_
    (try dsimp only);exact Mh
  intro jg a H
  try have nG:=dF jg
  rw [ade nG,mG] at iQ;have H:=H.sub (T':=[(0,_),(1,_),(5,_),(6,_),(7,_)]) ⟨O,O,O,O,O,aH⟩;refine bQ ?_;refine K2 _ _ ?_;clear K2;refine kP H (SR fun _ K2=>Rm O (Rc O (Kz K2 (Cd O ?_ ?_)))) <;> clear H K2
  · intro h45 a H
    try have p45:=dT h45
    rw [iw] at iQ;refine kP H (SC (Rm O (Rm O (Rm O ?_))));clear H;intro a H;refine TR (z:=[.int .i64 0,.int .i64 0]) KP aG Z [_,_] H wn O O (fun i q h=>by match i,h with|0,h=>exact h|1,h=>exact h|n+2,h=>simp at h) O O ?_;clear H;intro a H;refine kH H (Rg iZ O (aK hgm hb) (Rm O ?_));clear H;intro a H;refine Ub start iH H wn O O O V O ?_;clear H;intro a H;refine zG (Li:=[_,_]) (L:=Lt) H wn O O (hcb j1 _ _ _ _ ⟨_,iQ.head,O⟩ (fun b o h=>hgm b o (oJ b o h)) iQ.now (Hp.owns (Li:=[_,_]) H.hp)) O ?_;clear H;rintro v53 VA VP a w ⟨CU,rfl,hb1,hb2⟩ ahi H;refine aB ?_;refine (leave0 H results81 ?_).2
    exact Mi
  intro h45 a H
  try have p45:=dF h45
  rw [dh] at iQ;refine kI ?_;refine (leave0 H results81 ?_).2
  exact Mi
theorem ZQ (G:GH) (w0:World) (hG:Hold G w0) (s:ByteArray) (hz:s.size<=1073741824) :
  Calls prog 73 #[.string s] w0 (bK w0 G fun u G'=>∃ bd,u=.func (.func 81) #[] #[(aD bd 0)]∧Iter prog G' u ((kJ s).map (AO s))):=by
 refine eN [(0,_)] func73 O ntmps73 O O hG ?_;intro a H;refine iV (fun _ K1=>?_);refine lV (cs:=[_]) H wn O O O ?_;clear H;intro b1 a w hb1 H;refine kH H (au K1 O (SR fun _ K2=>?_));clear H K1;intro a H;refine Cc H wn O O ?_;clear H;intro a H;refine kH H (au K2 O ?_);clear H K2;intro a H;refine bN ?_;obtain ⟨G2,hm2,hb1,H⟩:=H.gP;refine lv H results73 O ?_;exact H.rt ⟨b1,O,XG (by unfold aQ;rw [hb1];rfl) hz⟩
structure xK (G0:GH) (s:ByteArray):Prop where
 h:∀ (G:GH) (w0:World),(∀ b o,G0 b=some o->G b=some o)->Hold G w0->Calls prog 72 #[.string s] w0 (bK w0 G fun u G'=>u=.bool true∧G=G')
theorem xK.ascii {G0:GH} {s:ByteArray} (hs:s.size<=8) (ha:∀ i (h:i < s.size),s[i].toNat < 128):xK G0 s:=⟨fun G w0 _ hG=>afC G w0 hG s hs ha⟩
def sO (s:ByteArray):List Int:=0 :: (kJ s).map fun x=>(x.2.1:Int)
theorem GQ (size:Nat):∀ (l:List (Nat × Nat)) (u f st:Nat) (m:qh),(mG size l u f st m).length<=l.length+1
 | [],u,f,st,m=>by rw [mG];split <;> simp
 | x :: l,u,f,st,m=>by
  have h1:=GQ size l (u+1) u x.1 (oo m (ni qB x.2));have h2:=GQ size l (u+1) f st (oo m (ni qB x.2))
  rw [mG];split <;> simp only [jB] at*<;> omega
theorem yg (s:ByteArray):(kJ s).length<=s.size+1:=by
 have h1:=GQ s.size (eD s) 0 0 0 ⟨0,false,false,0⟩;have h2:=zC s s.size 0
 unfold kJ;unfold eD at *;omega
theorem Ta (G:GH):∀ (B A:List Int),bU G 1 (A.map eF) (A.map vi)->bU G 1 ((A++B).map eF) ((A++B).map vi)
 | [],A,h=>by rw [kr];exact h
 | x :: B,A,h=>by
  have h2:=h.snoc (nZ G x) O;have h3:=Ta G B (A++[x]) (by simpa using h2)
  simpa using h3
theorem wO (G:GH) (A:List Int):bU G 1 (A.map eF) (A.map vi):=Ta G A [] bU.nil
theorem WY {G0:GH} (G:GH) (w0:World) (hG:Hold G w0) (h0:∀ b o,G0 b=some o->G b=some o) (s:ByteArray) (hz:s.size<=1073741824) (hv:xK G0 s) :
  Calls prog 64 #[.string s] w0 (bK w0 G fun u G'=>∃ x,u=.tuple #[x,vi 0]∧ay G' (.sl 1 ((sO s).map eF)) x):=by
 have hcl:=yg s;have hml:maxLen=9223372036854775807:=rfl;refine eN [(0,_)] func64 O ntmps64 O O hG ?_;intro a H;refine kP H (SR fun _ K1=>Ra O (au K1 O (SQ fun _ K2=>SR fun _ K3=>Rm O ?_)));clear H K1;intro a H;refine s_call Y6 H wn O (hv.h _ _ h0 H.ro) O ?_;clear H;rintro v7 _ a w ⟨rfl,rfl⟩ - H;refine kH H (Rn O (Kz K3 (Cd O ?_ ?_))) <;> clear H K3
 ·intro h8 a H
  exact absurd h8 Y
 intro h8 a H
 try have p8:=dF h8
 refine kI ?_;refine K2 _ _ ?_;clear K2;refine iV (fun _ K1=>?_);refine eU bP aG [_] [_] H wn O O O O O (by intro i q h;match i,h with|0,h=>exact h|n+1,h=>simp at h) O O ?_;clear H;intro b9 a w IE H;refine jv bI H wn O ?_;clear H;intro b4 a w hb4 H;refine eZ bI 0 (vs:=[_]) H wn O ?_;clear H;intro w H;refine K1 _ _ ?_;clear K1;refine kP H (SQ fun _ K1=>SR fun _ K2=>Rm O ?_);clear H;intro a H;refine s_call Y7 H wn O (ZQ _ _ H.ro s hz) O ?_;clear H;rintro v11 zY a w ⟨bd,rfl,hit⟩ oJ H;refine K2 _ _ ?_;clear K2;refine uP ?_;skip;refine Xk (ι:=aj × List aj × OL) (κ:=Empty) (Lc:=[]) (fun (k:Nat) (gh:aj × List aj × OL)=>[(b4,.cells #[gh.1] 46 (0,0))]) (fun (k:Nat) (gh:aj × List aj × OL)=>gh.2.2) (fun (k:Nat) (gh:aj × List aj × OL) (g:GH)=>aZ 3 1 gh.1 (k+1) gh.2.1 gh.2.2∧gh.2.1=((sO s).take (k+1)).map vi) (fun x=>x.elim) (fun x=>x.elim) (fun x=>x.elim) (fun x=>x.elim) ((.slice (some ⟨b9,0,none⟩) 1 1,[vi 0],[(b9,.cells #[vi 0] 3 (0,0))])) (by exact H) O Qw (hit) (fun _ _ h=>h) O (fun k args g h=>by obtain ⟨_,rfl⟩:=PS h;rfl) (fun k i G G' hm h=>h) (fun x=>x.elim) (⟨aZ.all O Y,O⟩) ?_ ?_ ?_
 ·clear H;intro l5 wP sZ bk k args gh G5 w5 F5 B5 a hk5 I9 hI aaE abj ahs H;obtain ⟨v,xs,Lo⟩:=gh;dsimp only at hI H;obtain ⟨hk,rfl⟩:=PS hk5;dsimp only [ru,List.cons_append,List.nil_append] at H;obtain ⟨hrw,hxs⟩:=hI;refine qw ?_;refine jv U0 H wn O ?_;clear H;intro b5 a w hb5 H;refine eZ U0 0 (vs:=[_,_]) H wn O ?_;clear H;intro w H;refine aB ?_;refine aaE _ _ _ _ _ _ (by exact H.dB (Pl:=[_,_,_]) (bS:=[_,_,_]) [1,0,2] Y O) ?_;clear H;intro w H;refine kP H (SB (SC (Ro bI 2 O ?_)));clear H;intro a H;refine mQ KP aG 1 H wn O O O Y O ?_;clear H;intro a H;refine kH H (Ro aG 1 O ?_);clear H;intro a H;refine eU bP aG [_] [_] H wn O O O O O (by intro i q h;match i,h with|0,h=>exact h|n+1,h=>simp at h) O O ?_;clear H;intro b17 a w Q6 H;have H:=St.un (A:=[_,_,_,_]) H;refine dV (Li:=[_,_,_,_]++bk) (Lo:=Lo) (news:=[vi (kJ s)[k].2.1]) bP aG O O H wn O O hrw O (H.hp.dw 0 O O) O V V O ?_;clear H;intro v18 Ad a w zk H;have H:=H.assoc;dsimp only [lca,bR] at H;obtain ⟨afB,afE,e18,-,-⟩:=zk.shape;subst e18;refine eZ bI 3 (vs:=[_]) H wn O ?_;clear H;intro w H;refine aB ?_;refine abj ((.slice afB (k+1+1) afE,xs++[vi (kJ s)[k].2.1],Ad)) _ _ _ _ _ (by exact H.dB (Pl:=[_,_,_,_]) (bS:=[_,_]) [1,3] Y O) ?_;exact ⟨zk,by rw [hxs,kg (i:=k+1) (by simp [sO];omega),ku];simp [sO]⟩
 ·clear H;intro Dk5 gh Gd5 a w I9 hI H;obtain ⟨v,xs,Lo⟩:=gh;dsimp only at hI H;dsimp only [lca,bR] at H;obtain ⟨hrw,hxs⟩:=hI;refine K1 _ _ ?_;clear K1;refine kP H (SR fun _ K1=>Ro bI 1 O (Ra O (au K1 O ?_)));clear H K1;intro a H;refine bN ?_;rw [bG] at hrw hxs;obtain ⟨Gr,hmr,hrep,H⟩:=St.kU (Li:=[_,_]) (Lo:=Lo) H hrw (rows:=(sO s).map eF) (by simp [sO]) (by rw [hxs,gX (by simp [sO])];exact wO _ _);refine (Sq H 0 O ?_).1;clear H;intro a w H;dsimp only [List.eraseIdx_cons_succ,List.eraseIdx_cons_zero] at H;refine (bZ H results64 (.cons (aJ H O) (.cons (aJ H O) .nil)) ?_).1
  first
   | exact H.rt ⟨_,O,hrep⟩
 intro Dk x;exact x.elim
def pU (s:ByteArray):Nat->Nat->List Int
 | 0,_=>[]
 | f+1,i=>if i < s.size then (dP s i).1 :: pU s f (i+(dP s i).2.1) else []
def qL (s:ByteArray):List Int:=pU s s.size 0
theorem Tn (s:ByteArray):∀ f i,(pU s f i).length<=f
 | 0,_=>by simp [pU]
 | f+1,i=>by
  rw [pU];split
  ·rw [jB];have:=Tn s f (i+(dP s i).2.1);omega
  simp
theorem Tm {s:ByteArray} {f i:Nat} (hf:s.size - i<=f) (h:i < s.size):pU s f i=(dP s i).1 :: pU s (f - 1) (i+(dP s i).2.1):=by
 match f,hf with
 | 0,hf=>omega
 | f+1,_=>rw [pU,aM h];rfl
theorem JO {s:ByteArray} {f i:Nat} (h:¬ i < s.size):pU s f i=[]:=by
 match f with
 | 0=>rfl
 | f+1=>rw [pU,aL h]
theorem Aj {p:Prop} (h:p:=by
 exact H.rt ⟨_,O,hrep⟩):p:=h
theorem acU (G:GH) (w0:World) (hG:Hold G w0) (s:ByteArray) (hs:s.size<=1073741824) (hv:dW s=true) :
  Calls prog 63 #[.string s] w0 (bK w0 G fun u G'=>∃ x,u=.tuple #[x,vi 0]∧ay G' (.sl 1 ((qL s).map eF)) x):=by
 have hv1:eH s 0 < 0:=by simpa [dW] using hv
 have hpl:=Tn s s.size 0;have hml:maxLen=9223372036854775807:=rfl;refine eN [(0,_)] func63 O ntmps63 O O hG ?_;intro a H;refine kP H (SR fun _ K1=>Ra O (au K1 O (SQ fun _ K2=>SR fun _ K3=>au K3 O (SB ?_))));clear H K1 K3;intro a H;skip;refine dz (ι:=Nat × Nat × List Int × aj × OL) (Tc:=[(0,_)]) (Lc:=[]) (fun gh=>[(2,gh.2.2.2.1),(4,vi gh.1)]) (fun gh=>[]++gh.2.2.2.2) (fun gh=>G) (fun gh=>gh.1<=s.size∧eH s 0=eH s gh.1∧s.size - gh.1<=gh.2.1∧gh.2.2.1++pU s gh.2.1 gh.1=qL s∧aZ 3 1 gh.2.2.2.1 gh.2.2.1.length (gh.2.2.1.map vi) gh.2.2.2.2) (fun gh=>s.size - gh.1) ((0,s.size,[],.slice none 0 0,[])) (by exact H.sub ⟨O,O,O,aH⟩) ?_ ?_
 ·exact ⟨dO _,O,Nat.sub_le _ _,O,aZ.nil⟩
 clear H;rintro ⟨i,f,B,v,Lo⟩ a w hI H;dsimp only at hI H;obtain ⟨hi,hf,hfu,heq,hrw⟩:=hI
 have hBl:B.length<=s.size:=by have:=ko List.length heq;rw [gW] at this;unfold qL at this;omega
 dsimp only [lca,bR] at H;refine kP H (SQ fun _ K1=>SR fun _ K3=>Rm O (Rm O (Rv iH O (Rc O (Kz K3 (Cd O ?_ ?_)))))) <;> clear H K3
 ·intro h11 a H
  try have oO:=dT h11
  refine kP H (Kc K1 (SB (SR fun _ K3=>Rm O (Rm O ?_))));clear H K1;intro a H;refine s_call Qr H wn O (Qe _ _ H.ro s i V V) O ?_;clear H;rintro v15 _ a w ⟨rfl,rfl⟩ - H;have hd:=yj s i V
  have hok:(dP s i).2.2=true:=by
   by_cases h:(dP s i).2.2=true
   ·exact h
   have h3:eH s i=i:=by rw [eH,dif_pos V,dif_neg h]
   omega
  have hd2:=hd.2 hok;refine kH H (Rm O ?_);clear H;intro a H;(iterate 3 refine fG H wn O O O ?_;clear H;intro a H);refine kH H (Ra O (Ra O (au K3 O (SQ fun _ K1=>SR fun _ K4=>Rm O (Rn O (Kz K4 (Cd O ?_ ?_))))))) <;> clear H K3 K4
  ·intro h20 a H
   exact absurd h20 (by rw [hok];decide)
  intro h20 a H
  try have qK:=dF h20
  refine kP H (Kc K1 (SR fun _ K3=>Rm O (Rm O ?_)));clear H K1;intro a H;refine eU bP aG [_] [_] H wn O O O O O (by intro i q h;match i,h with|0,h=>exact h|n+1,h=>simp at h) O O ?_;clear H;intro V7 a w aav H;refine dV (Li:=[_]) (Lo:=Lo) (news:=[vi (dP s i).1]) bP aG O O H wn O O hrw O (H.hp.dw 0 O O) O V V O ?_;clear H;intro v24 FJ a w wM H;obtain ⟨ahM,ahN,e24,-,-⟩:=wM.shape;refine kH H (au K3 O (SC (Rm O (Rm O (Rd O (Ra O ?_))))));clear H K3;intro a H;refine aB ?_;refine JA ((i+(dP s i).2.1,f - 1,B++[(dP s i).1],v24,FJ)) (by exact (H.dB (Pl:=[_]) (bS:=[]) [] Y O).sub ⟨O,O,O,aH⟩) ?_ ?_
  ·(try dsimp only);exact ⟨V,by rw [hf,eH,dif_pos V,dif_pos hok],V,by rw [Tm hfu V] at heq;simpa using heq,by rw [gW,ku];exact wM⟩
  omega
 intro h11 a H
 try have oO:=dF h11
 refine bQ ?_;refine K2 _ _ ?_;clear K2;refine kP H (SR fun _ K2=>Rm O (Ra O (au K2 O ?_)));clear H K2;intro a H;refine bN ?_;rw [JO V,kr] at heq;obtain ⟨Gr,hmr,hrep,H⟩:=St.kU (Li:=[]) (Lo:=Lo) H hrw (rows:=B.map eF) (by simp) (wO _ _);rw [heq] at hrep;refine (bZ H results63 (.cons (aJ H O) (.cons (aJ H O) .nil)) ?_).1;exact Aj
theorem ZA:fu prog 158 1 1:=⟨Z⟩
theorem Zz:fu prog 158 0 0:=⟨Z⟩
theorem Qv:bD 77:=bH func77 O
theorem Za:bD 76:=bH func76 O
theorem ZB:fu prog 158 2 2:=⟨Z⟩
theorem Zh:bD 91:=bH func91 O
theorem Zf:bD 86:=bH func86 O
theorem Zw:fu prog 146 0 0:=⟨Z⟩
def tu (x:dR) (p:Int):Int:=if x.high < p then -1 else if x.low > p then 1 else 0
theorem Mj {p:Prop} (h:p:=by
 exact kP H (SR fun _ K1=>au K1 O (LR results77 O fun H=>H.rt (by unfold tu;repeat (first|rw [iw]|rw [dh]))))):p:=h
theorem PX (G:GH) (w0:World) (hG:Hold G w0) (x:dR) (p:Int):Calls prog 77 #[.agg #[vi x.low,vi x.high,vi x.cls],vi p] w0 (bK w0 G fun u G'=>u=vi (tu x p)):=by
 refine eN [(0,_),(1,_)] func77 O ntmps77 O O hG ?_;intro a H;refine iV (fun _ K1=>?_);refine lV (cs:=[_,_,_]) H wn O O O ?_;clear H;intro b2 a w hb2 H;refine kH H (au K1 O (SQ fun _ K2=>SB (SR fun _ K3=>fJ ZA aG 0 O O (Rm O (Rc O (au K3 O (Cd O ?_ ?_))))))) <;> clear H K1 K3
 ·intro h5 a H
  try have p5:=dT h5
  exact Mj
 intro h5 a H
 try have p5:=dF h5
 refine kP H (SR fun _ K1=>fJ Zz aG 0 O O (Rm O (Rc O (au K1 O (Cd O ?_ ?_))))) <;> clear H K1
 ·intro h10 a H
  try have nE:=dT h10
  exact Mj
 intro h10 a H
 try have nE:=dF h10
 exact kP H (Kc K2 (SR fun _ K1=>au K1 O (LR results77 O fun H=>H.rt (by unfold tu;repeat (first|rw [iw]|rw [dh])))))
def DZ (l:List dR) (p:Int) (i:Nat):Bool:=match l[i]? with|some x=>decide (¬ tu x p < 0)|none=>false
def Bc (l:List dR) (p:Int):Nat:=bs (DZ l p) l.length 0 l.length
def rH (l:List dR) (p:Int):Bool:=match l[Bc l p]? with|some x=>decide (tu x p=0)|none=>false
def nV (l:List dR) (p:Int):Int:=match l[Bc l p]? with|some x=>if tu x p=0 then x.cls else 0|none=>0
theorem Xa (G:GH) (w0:World) (hG:Hold G w0) (l:List dR) (p:Int) (v:aj) (hv:ay G (.sl 3 (l.map dR.dat)) v) (hl:l.length<=4294967296) :
  Calls prog 76 #[v,vi p,.func (.func 77) #[] #[]] w0 (bK w0 G fun u G'=>u=.tuple #[vi (Bc l p),.bool (rH l p)]):=by
 obtain ⟨A,c,rfl,hc1,hc2,-⟩:=hv.slice;rw [bG] at *;refine eN [(0,_),(1,_),(2,_)] func76 O ntmps76 O O hG ?_;intro a H;refine kP H (SR fun _ K1=>Ra O (au K1 O (SR fun _ K2=>Rm O (Rl xu O (au K2 O (SR fun _ K3=>Rm O (Ra O (au K3 O (SQ fun _ K4=>SB ?_)))))))));clear H K1 K2 K3;intro a H;skip;refine dz (ι:=Nat × Nat × Nat × GH) (Tc:=[(0,_),(1,_),(2,_),(8,_)]) (Lc:=[]) (fun gh=>[(9,vi gh.1),(10,vi gh.2.1)]) (fun gh=>[]) (fun gh=>gh.2.2.2) (fun gh=>gh.1<=gh.2.1∧gh.2.1<=l.length∧gh.2.1 - gh.1<=gh.2.2.1∧bs (DZ l p) gh.2.2.1 gh.1 gh.2.1=Bc l p∧(∀ b o,G b=some o->gh.2.2.2 b=some o)) (fun gh=>gh.2.1 - gh.1) ((0,l.length,l.length,G)) (by exact H.sub ⟨O,O,O,O,O,O,aH⟩) ?_ ?_
 ·exact MJ
 clear H;rintro ⟨i,j,f,g⟩ a w hI H;dsimp only at hI H;obtain ⟨hij,hj,hf1,heq,hgm⟩:=hI;dsimp only [lca,bR] at H;refine kP H (SQ fun _ K1=>SR fun _ K2=>Rm O (Rm O (Rc O (Kz K2 (Cd O ?_ ?_))))) <;> clear H K2
 ·intro dH a H
  try have jY:=dT dH
  have hlt:i < j:=by omega
  have hh:(i+j) / 2 < l.length:=by omega
  rw [Pb hf1 hlt] at heq
  have hge:DZ l p ((i+j) / 2)=decide (¬ tu l[(i+j) / 2] p < 0):=by simp only [DZ,gU hh]
  rw [hge] at heq;obtain ⟨b,o,rfl,hrow⟩:=Cg hv hh;replace hrow:=fun j u hj=>aK hgm (hrow j u hj);refine kP H (Kc K1 (SB (SR fun _ K2=>Rm O (Rm O (Rd O ?_)))));clear H K1;intro a H;rw [show ((i:Int)+(j:Int))=((i+j:Nat):Int) by push_cast;rfl] at H;refine vD ((i+j:Nat):Int) Fu um H wn O (U9 V V) O ?_;clear H;intro a H;refine J5 _ H wn O O O Y O ?_;clear H;intro a H;rw [Uj] at H;refine vD (((i+j) / 2:Nat):Int) um Fu H wn O (tQ V V) O ?_;clear H;intro a H;refine kH H (au K2 O (SR fun _ K1=>Rm O (Rm O (Rm O ?_))));clear H K2;intro a H;refine bO xu vG ((i+j) / 2) H wn O O O hh O ?_;clear H;intro a H;refine dL vG (cs:=[_,_,_]) H wn O O (fun j v hj=>H.hp.aQ (hrow j v hj)) O ?_;clear H;intro a H;refine kH H (Rm O ?_);clear H;intro a H;refine wT H wn O O (rE (caps:=[]) (args:=[_,_]) Qv (PX _ _ H.ro l[(i+j) / 2] p)) O ?_;clear H;rintro v30 Cz a w rfl Bp H;refine kH H (Rc O (Kz K1 (Cd O ?_ ?_))) <;> clear H K1
  ·intro h31 a H
   try have p31:=dT h31
   rw [aL (by simpa using p31)] at heq;refine kP H (SC (Rm O (Rd O (Ra O ?_))));clear H;intro a H;refine aB ?_;refine aX (((i+j) / 2+1,j,f - 1,Cz)) (by exact H.sub ⟨O,O,O,O,O,O,aH⟩) ?_
   (try dsimp only);exact ⟨V,hj,V,heq,fun b o h=>Bp b o (hgm b o h)⟩
  intro h31 a H
  try have p31:=dF h31
  rw [aM (by simpa using p31)] at heq;refine kP H (SC (Rm O (Ra O ?_)));clear H;intro a H;refine aB ?_;refine aX ((i,(i+j) / 2,f - 1,Cz)) (by exact H.sub ⟨O,O,O,O,O,O,aH⟩) ?_
  (try dsimp only);exact ⟨V,V,V,heq,fun b o h=>Bp b o (hgm b o h)⟩
 intro dH a H
 try have jY:=dF dH
 refine bQ ?_;refine K4 _ _ ?_;clear K4;refine fT (fun _ K2=>?_);rw [O9 V] at heq;refine kP H (SC (Rm O (Rm O (Rm O (Rc O (Rm O (Sp 39 O ?_ ?_))))))) <;> clear H
 ·intro iq a H
  try have p39:=dT iq
  have hh:i < l.length:=by omega
  have kE:rH l p=decide (tu l[i] p=0):=by simp only [rH,<- heq,gU hh]
  obtain ⟨b,o,rfl,hrow⟩:=Cg hv hh;replace hrow:=fun j u hj=>aK hgm (hrow j u hj);refine kH H (YM iq O (YM iq O (YM iq O ?_)));clear H;intro a H;refine bO xu vG i H (wg H O O iq) O O O hh O ?_;clear H;intro a H;refine dL vG (cs:=[_,_,_]) H (wg H O O iq) O O (fun j v hj=>H.hp.aQ (hrow j v hj)) O ?_;clear H;intro a H;refine kH H (YM iq O ?_);clear H;intro a H;refine wT H (wg H O O iq) O O (rE (caps:=[]) (args:=[_,_]) Qv (PX _ _ H.ro l[i] p)) O ?_;clear H;rintro v46 G46 a w rfl ahh H;refine kH H (YC iq O (Pt iq O (Ra O (cO K2 O ?_))));clear H K2;intro a H;refine bN ?_;refine (bZ H results76 (.cons (aJ H O) (.cons (aJ H O) .nil)) ?_).1;exact H.rt (by rw [kE,<- heq];try rfl)
 intro iq a H
 try have p39:=dF iq
 have kE:rH l p=false:=by simp only [rH,<- heq,List.getElem?_eq_none (show l.length<=i by omega)]
 refine kH H (aU iq O (aU iq O (aR iq O (Pf iq O (Ra O (cO K2 O ?_))))));clear H K2;intro a H;refine bN ?_;refine (bZ H results76 (.cons (aJ H O) (.cons (aJ H O) .nil)) ?_).1;exact H.rt (by rw [kE,<- heq];try rfl)
theorem find_spec (G:GH) (w0:World) (hG:Hold G w0) (l:List dR) (p:Int) (v:aj) (hv:ay G (.sl 3 (l.map dR.dat)) v) (hl:l.length<=4294967296) :
  Calls prog 66 #[v,vi p] w0 (bK w0 G fun u G'=>u=vi (nV l p)):=by
 obtain ⟨A,c,rfl,hc1,hc2,-⟩:=hv.slice;rw [bG] at *;obtain ⟨k,hk⟩:∃ k,k=Bc l p:=⟨_,O⟩;refine eN [(0,_),(1,_)] func66 O ntmps66 O O hG ?_;intro a H;refine kP H (SR fun _ K1=>au K1 O (SR fun _ K2=>Rm O (Rm O ?_)));clear H K1;intro a H;refine s_call Za H wn O (Xa _ _ H.ro l p _ hv hl) O ?_;clear H;rintro v10 Lr a w rfl yU H;rw [<- hk] at H;refine kH H (Rm O ?_);clear H;intro a H;(iterate 2 refine fG H wn O O O ?_;clear H;intro a H);refine kH H (Ra O (au K2 O (SQ fun _ K1=>SR fun _ K3=>Rm O (Rn O (Kz K3 (Cd O ?_ ?_)))))) <;> clear H K2 K3
 ·intro dQ a H
  refine kP H (SR fun _ K2=>au K2 O ?_);clear H K2;intro a H;refine lr H results66 O ?_
  have kE:rH l p=false:=by simpa using dQ
  exact H.rt (by
   rw [rH,<- hk] at kE;rw [nV,<- hk]
   cases h:l[k]? with
   | none=>rfl
   | some x=>rw [h] at kE;dsimp only at kE |-;rw [aL (by simpa using kE)])
 intro dQ a H
 try have jr:=dF dQ
 have kE:rH l p=true:=by simpa using dQ
 have hkl:k < l.length:=by
  by_cases h:k < l.length
  ·exact h
  rw [rH,<- hk,List.getElem?_eq_none V] at kE;cases kE
 have hcm:tu l[k] p=0:=by rw [rH,<- hk,gU hkl] at kE;simpa using kE
 obtain ⟨b,o,rfl,hrow⟩:=Cg hv hkl;have h2:=aK yU (hrow 2 _ O);refine kP H (Kc K1 (SR fun _ K2=>Rm O (Rm O ?_)));clear H K1;intro a H;refine bO xu vG k H wn O O O hkl O ?_;clear H;intro a H;refine kH H (Rf ZB O (Rg aG O (by assumption) ?_));clear H;intro a H;exact kH H (au K2 O (LR results66 O fun H=>H.rt (by rw [nV,<- hk,gU hkl];dsimp only;rw [aM hcm])))
theorem index_spec (G:GH) (w0:World) (hG:Hold G w0) (l:List Int) (x:Int) (v:aj) (hv:ay G (.sl 1 (l.map eF)) v) :
  Calls prog 91 #[v,vi x] w0 (bK w0 G fun u G'=>G=G'∧∃ z:Int,u=vi z∧(0<=z↔x∈l)):=by
 obtain ⟨A,c,rfl,hc1,hc2,-⟩:=hv.slice;have hml:maxLen=9223372036854775807:=rfl;rw [bG] at *;refine eN [(0,_),(1,_)] func91 O ntmps91 O O hG ?_;intro a H;refine kP H (SR fun _ K1=>au K1 O (SQ fun _ K2=>SR fun _ K3=>Rm O (Rl bP O (Rm O (Kz K3 (SB ?_))))));clear H K1 K3;intro a H;skip;refine dz (ι:=Nat) (Tc:=[(0,_),(1,_),(7,_)]) (Lc:=[]) (fun gh=>[(8,vi gh)]) (fun gh=>[]) (fun gh=>G) (fun gh=>gh<=l.length∧∀ q (hq:q < gh) (hq2:q < l.length),¬ l[q]=x) (fun gh=>l.length - gh) (0) (by exact H.sub ⟨O,O,O,O,aH⟩) ?_ ?_
 ·exact ⟨dO _,fun q hq=>absurd hq (Nat.not_lt_zero _)⟩
 clear H;intro k a w hI H;obtain ⟨hk,hno⟩:=hI;dsimp only [lca,bR] at H;refine kP H (SR fun _ K1=>Rc O (Kz K1 (SQ fun _ K3=>Cd O ?_ ?_))) <;> clear H K1
 ·intro h9 a H
  try have p9:=dT h9
  have hk2:k < l.length:=by omega
  obtain ⟨b,o,rfl,hrow⟩:=mO hv hk2;refine kP H (Kc K3 (SQ fun _ K1=>SB (SR fun _ K4=>Rm O (au K4 O (SR fun _ K5=>Rm O (Rm O (Rm O (Ri bP aG O O (Rg aG O (by assumption) ?_)))))))));clear H K3 K4;intro a H;refine kH H (Rc O (Kz K5 (Cd O ?_ ?_))) <;> clear H K5
  ·intro h16 a H
   try have p16:=dT h16
   exact kP H (SR fun _ K3=>Rm O (au K3 O (LR results91 O fun H=>H.rt ⟨O,_,O,⟨fun _=>by rw [p16];exact dK hk2,fun _=>by omega⟩⟩)))
  intro h16 a H
  try have p16:=dF h16
  refine kP H (Kc K1 (SC (Rd O (Rm O ?_))));clear H K1;intro a H;refine aB ?_;refine aX ((k+1)) (by exact H.sub ⟨O,O,O,O,aH⟩) ?_
  exact ⟨V,fun q hq hq2=>by
    by_cases e:q=k
    ·subst e;omega
    exact hno q V hq2⟩
 intro h9 a H
 try have p9:=dF h9
 refine bQ ?_;refine K2 _ _ ?_;clear K2;refine kP H (SR fun _ K1=>au K1 O ?_);clear H K1;intro a H;refine lr H results91 O ?_
 exact H.rt ⟨O,_,O,⟨fun h=>absurd h Y,fun h=>by
 obtain ⟨q,hq,e⟩:=List.getElem_of_mem h
 exact absurd e (hno q V hq)⟩⟩
theorem XL (G:GH) (w0:World) (hG:Hold G w0) (l:List Int) (x:Int) (v:aj) (hv:ay G (.sl 1 (l.map eF)) v) :
  Calls prog 86 #[v,vi x] w0 (bK w0 G fun u G'=>G=G'∧u=.bool (decide (x∈l))):=by
 refine eN [(0,_),(1,_)] func86 O ntmps86 O O hG ?_;intro a H;refine kP H (SR fun _ K1=>au K1 O (SR fun _ K2=>Rm O (Rm O ?_)));clear H K1;intro a H;refine s_call Zh H wn O (index_spec _ _ H.ro l x _ hv) O ?_;clear H;rintro v7 _ a w ⟨rfl,z,rfl,hz⟩ - H;exact kH H (Rc O (au K2 O (LR results86 O fun H=>H.rt ⟨O,by congr 1;rw [decide_eq_decide];exact hz⟩)))
structure dx where
 cls:Int
 from_:Int
 to:Int
def dx.dat (x:dx):List Dat:=[li x.cls,li x.from_,li x.to]
def dx.cells (x:dx):List aj:=[vi x.cls,vi x.from_,vi x.to]
theorem mK (G:GH) (w0:World) (hG:Hold G w0) (x:dx) (l:List Int) (v:aj) (hv:ay G (.sl 1 (l.map eF)) v) :
  Calls prog 78 #[.agg #[vi x.cls,vi x.from_,vi x.to],v] w0 (bK w0 G fun u G'=>G=G'∧u=.bool (decide (x.cls∈l))):=by
 refine eN [(0,_),(1,_)] func78 O ntmps78 O O hG ?_;intro a H;refine iV (fun _ K1=>?_);refine lV (cs:=[_,_,_]) H wn O O O ?_;clear H;intro b2 a w hb2 H;refine kH H (au K1 O (SR fun _ K2=>Rm O (fJ Zw aG 0 O O ?_)));clear H K1;intro a H;refine s_call Zf H wn O (XL _ _ H.ro l x.cls _ hv) O ?_;clear H;rintro v8 _ a w ⟨rfl,rfl⟩ - H;exact kH H (au K2 O (LR results78 O fun H=>H.rt ⟨O,O⟩))
theorem gF:Ty prog 146 3 24 [.int .i64 0,.int .i64 0,.int .i64 0] true:=⟨Z,Z⟩
theorem ji:prog.underlying 117=some (.slice 146):=by kernel_rfl
theorem mH:bD 78:=bH func78 O
theorem Zb:bD 79:=bH func79 O
theorem XA (G:GH) (x:dx):aT G x.dat x.cells:=by
 simp only [dx.dat,dx.cells,aT]
 exact CV
theorem Xz {G:GH} {x:dx} {cs:List aj} (h:aT G x.dat cs):cs=x.cells:=by
 simp only [dx.dat,aT,ay] at h
 exact Dg
theorem Dz {G:GH} {l:List dx} {A:Option Addr} {n c k:Nat} (hv:ay G (.sl 3 (l.map dx.dat)) (.slice A n c)) (hk:k < l.length):∃ b o,A=some ⟨b,o,none⟩∧(∀ j u,l[k].cells[j]?=some u->aQ G b (o+k*3+j)=some u):=by
 obtain ⟨A',c',he,_,_,hg⟩:=hv.slice
 injection he with e1 e2 e3
 subst e1;obtain ⟨b,o,cs,h1,h2,h3,h4⟩:=hg k l[k].dat (by simp [hk]);obtain rfl:=Xz h4;exact Ap
theorem lu {G:GH} {l:List dx} {b o n c k:Nat} (hv:ay G (.sl 3 (l.map dx.dat)) (.slice (some ⟨b,o,none⟩) n c)) (hk:k < l.length):∀ j u,[vi l[k].cls,vi l[k].from_,vi l[k].to][j]?=some u->aQ G b (o+k*3+j)=some u:=by
 obtain ⟨b',o',e,h⟩:=Dz hv hk
 injection e with e;injection e with e1 e2;subst e1;subst e2
 exact h
def iI (l:List dx) (i:Nat):Int:=match l[i]? with|some x=>x.cls|none=>-1
theorem PV {l:List dx} {i:Nat} (h:i < l.length):iI l i=l[i].cls:=by simp only [iI,gU h]
theorem is1 {l:List dx} {i:Nat} (h:i < l.length) (c:Int):decide (l[i].cls∈[c])=decide (iI l i=c):=by rw [PV h];simp
theorem is2 {l:List dx} {i:Nat} (h:i < l.length) (c d:Int):decide (l[i].cls∈[c,d])=decide (iI l i=c∨iI l i=d):=by rw [PV h];simp
def okW (l:List dx) (n:Nat):Bool:=decide (iI l n=5∨iI l n=6∨(0 < n∧n+1 < l.length∧iI l n=11∧iI l (n - 1)=5∧iI l (n+1)=5)∨(0 < n∧n+1 < l.length∧iI l n=10∧iI l (n - 1)=6∧iI l (n+1)=6))
def qR (l:List dx):Nat->Nat->Int->Nat × Int
 | 0,n,k=>(n,k)
 | f+1,n,k=>if n < l.length then (if okW l n=true then qR l f (n+1) (if iI l n=5 then 1 else k) else (n,k)) else (n,k)
theorem Vo {l:List dx} {f n:Nat} {k:Int} (hf:l.length - n<=f) (h:n < l.length):qR l f n k=if okW l n=true then qR l (f - 1) (n+1) (if iI l n=5 then 1 else k) else (n,k):=by
 match f,hf with
 | 0,hf=>omega
 | f+1,_=>rw [qR,aM h];rfl
theorem afO {l:List dx} {f n:Nat} {k:Int} (h:¬ n < l.length):qR l f n k=(n,k):=by
 match f with
 | 0=>rfl
 | f+1=>rw [qR,aL h]
def kZ (l:List dx):Nat × Int:=qR l l.length 0 2
theorem Mk {p:Prop} (h:p:=by
 exact ⟨V,V,by rw [aM (show okW l n=true by simp only [okW,gG];omega),aL (show ¬ iI l n=5 by omega)] at heq;exact heq,cB⟩):p:=h
theorem nR {p:Prop} (h:p:=by
 first
  | exact heq
  | (rw [aL (show ¬ okW l n=true by simp only [okW,gG];omega)] at heq;exact heq)):p:=h
theorem nS {p:Prop} (h:p:=by
 exact H.rt (by rw [<- hfin])):p:=h
theorem CY {p:Prop} (h:p:=by
 intro h63 a H
 try have p63:=dT h63
 first
 | (exfalso;omega)
 | (exact absurd h63 Y)
 |skip
  refine kH H (YM h63 O ?_);clear H;intro a H;refine rV _ H (wg H O O h63) O O O V V O ?_;clear H;intro a H;refine kH H (YM h63 O (YL ji h63 O (YC h63 O (Pt h63 O (Rm O (Sp 70 O ?_ ?_)))))) <;> clear H
  ·intro gL a H
   try have p70:=dT gL
   first
   | (exfalso;omega)
   | (exact absurd gL Y)
   |skip
    refine kH H (YM gL O (YM gL O ?_));clear H;intro a H;refine bO ji gF n H (wg H O O gL) O O V V O ?_;clear H;intro a H;refine dL gF (cs:=[_,_,_]) H (wg H O O gL) O O (fun j v hj=>H.hp.aQ (lu cB (k:=n) V j v hj)) O ?_;clear H;intro a H;refine eU bP aG [_] [_] H (wg H O O gL) O O O O O (by intro i q h;match i,h with|0,h=>exact h|n+1,h=>simp at h) O O ?_;clear H;intro Wi a w aaA H;obtain ⟨Gq,iE,hq,H⟩:=H.oI (sz:=1) (d:=eF 10) O (nZ _ 10);replace cB:=cB.mono iE;refine s_call mH H (wg H O O gL) O (mK _ _ H.ro l[n] [10] _ hq) O ?_;clear H;rintro v76 _ a w ⟨rfl,rfl⟩ - H;rw [is1 V 10] at H;refine kH H (Pt gL O (Rm O (Sp 78 O ?_ ?_))) <;> clear H
    ·intro gM a H
     try have JJ:=dT gM
     first
     | (exfalso;omega)
     | (exact absurd gM Y)
     |skip
      refine kH H (YM gM O (YM gM O ?_));clear H;intro a H;refine ES _ H (wg H O O gM) O O O V V O ?_;clear H;intro a H;refine bO ji gF (n - 1) H (wg H O O gM) O O V V O ?_;clear H;intro a H;refine dL gF (cs:=[_,_,_]) H (wg H O O gM) O O (fun j v hj=>H.hp.aQ (lu cB (k:=(n - 1)) V j v hj)) O ?_;clear H;intro a H;refine eU bP aG [_] [_] H (wg H O O gM) O O O O O (by intro i q h;match i,h with|0,h=>exact h|n+1,h=>simp at h) O O ?_;clear H;intro Wj a w aaB H;obtain ⟨Gq,iE,hq,H⟩:=H.oI (sz:=1) (d:=eF 6) O (nZ _ 6);replace cB:=cB.mono iE;refine s_call mH H (wg H O O gM) O (mK _ _ H.ro l[(n - 1)] [6] _ hq) O ?_;clear H;rintro v85 _ a w ⟨rfl,rfl⟩ - H;rw [is1 V 6] at H;refine kH H (Pt gM O (Rm O (Sp 87 O ?_ ?_))) <;> clear H
      ·intro h87 a H
       try have JL:=dT h87
       first
       | (exfalso;omega)
       | (exact absurd h87 Y)
       |skip
        refine kH H (YM h87 O (YM h87 O ?_));clear H;intro a H;refine rV _ H (wg H O O h87) O O O V V O ?_;clear H;intro a H;refine bO ji gF (n+1) H (wg H O O h87) O O V V O ?_;clear H;intro a H;refine dL gF (cs:=[_,_,_]) H (wg H O O h87) O O (fun j v hj=>H.hp.aQ (lu cB (k:=(n+1)) V j v hj)) O ?_;clear H;intro a H;refine eU bP aG [_] [_] H (wg H O O h87) O O O O O (by intro i q h;match i,h with|0,h=>exact h|n+1,h=>simp at h) O O ?_;clear H;intro Wm a w aaC H;obtain ⟨Gq,iE,hq,H⟩:=H.oI (sz:=1) (d:=eF 6) O (nZ _ 6);replace cB:=cB.mono iE;refine s_call mH H (wg H O O h87) O (mK _ _ H.ro l[(n+1)] [6] _ hq) O ?_;clear H;rintro v94 _ a w ⟨rfl,rfl⟩ - H;rw [is1 V 6] at H;refine kH H (Pt h87 O (au K4 O (Cd O ?_ ?_))) <;> clear H K4
        ·intro iP a H
         try have p60:=dT iP
         first
         | (exfalso;omega)
         | (exact absurd iP Y)
         |skip
          refine kP H (Kc K2 (SC (Rm O (Rd O (Ra O ?_)))));clear H K2;intro a H;refine aB ?_;refine aX ((n+1,f - 1,kd,Gq)) (by exact H.sub ⟨O,O,O,aH⟩) ?_
          (try dsimp only);exact Mk
        intro iP a H
        try have p60:=dF iP
        first
        | (exfalso;omega)
        | (exact absurd iP Y)
        |skip
         refine kP H (SR fun _ K1=>Rm O (Rm O (Ra O (au K1 O ?_))));clear H K1;intro a H;refine bN ?_;refine (bZ H results79 (.cons (aJ H O) (.cons (aJ H O) .nil)) ?_).1
         have hfin:(n,kd)=kZ l:=by
          exact nR
         exact nS
      intro h87 a H
      try have JL:=dF h87
      first
      | (exfalso;omega)
      | (exact absurd h87 Y)
      |skip
       refine kH H (aU h87 O (aR h87 O (aR h87 O (Pf h87 O (au K4 O (Cf O O (SR fun _ K1=>Rm O (Rm O (Ra O (au K1 O ?_))))))))));clear H K4 K1;intro a H;refine bN ?_;refine (bZ H results79 (.cons (aJ H O) (.cons (aJ H O) .nil)) ?_).1
       have hfin:(n,kd)=kZ l:=by
        exact nR
       exact nS
    intro gM a H
    try have JJ:=dF gM
    first
    | (exfalso;omega)
    | (exact absurd gM Y)
    |skip
     refine kH H (aU gM O (aR gM O (aR gM O (Pf gM O (Rm O (aU O O (aR O O (aR O O (Pf O O (au K4 O (Cf O O (SR fun _ K1=>Rm O (Rm O (Ra O (au K1 O ?_)))))))))))))));clear H K4 K1;intro a H;refine bN ?_;refine (bZ H results79 (.cons (aJ H O) (.cons (aJ H O) .nil)) ?_).1
     have hfin:(n,kd)=kZ l:=by
      exact nR
     exact nS
  intro gL a H
  try have p70:=dF gL
  first
  | (exfalso;omega)
  | (exact absurd gL Y)
  |skip
   refine kH H (aU gL O (aU gL O (Pf gL O (Rm O (aU O O (aR O O (aR O O (Pf O O (Rm O (aU O O (aR O O (aR O O (Pf O O (au K4 O (Cf O O (SR fun _ K1=>Rm O (Rm O (Ra O (au K1 O ?_)))))))))))))))))));clear H K4 K1;intro a H;refine bN ?_;refine (bZ H results79 (.cons (aJ H O) (.cons (aJ H O) .nil)) ?_).1
   have hfin:(n,kd)=kZ l:=by
    exact nR
   exact nS):p:=h
theorem Gp {p:Prop} (h:p:=by
 |skip
  refine kP H (Kc K2 (SC (Rm O (Rd O (Ra O ?_)))));clear H K2;intro a H;refine aB ?_;refine aX ((n+1,f - 1,kd,Gq)) (by exact H.sub ⟨O,O,O,aH⟩) ?_
  (try dsimp only);exact Mk):p:=h
theorem afM (G:GH) (w0:World) (hG:Hold G w0) (l:List dx) (v:aj) (hv:ay G (.sl 3 (l.map dx.dat)) v) :
  Calls prog 79 #[v] w0 (bK w0 G fun u G'=>u=.tuple #[vi (kZ l).1,vi (kZ l).2]):=by
 obtain ⟨A,c,rfl,hc1,hc2,-⟩:=hv.slice;have hml:maxLen=9223372036854775807:=rfl;rw [bG] at *;refine eN [(0,_)] func79 O ntmps79 O O hG ?_;intro a H;refine kP H (SR fun _ K1=>Ra O (au K1 O (SR fun _ K2=>au K2 O (SQ fun _ K3=>SB ?_))));clear H K1 K2;intro a H;skip;refine dz (ι:=Nat × Nat × Int × GH) (Tc:=[(0,_)]) (Lc:=[]) (fun gh=>[(2,vi gh.1),(3,vi gh.2.2.1)]) (fun gh=>[]) (fun gh=>gh.2.2.2) (fun gh=>gh.1<=l.length∧l.length - gh.1<=gh.2.1∧qR l gh.2.1 gh.1 gh.2.2.1=kZ l∧ay gh.2.2.2 (.sl 3 (l.map dx.dat)) (.slice A l.length c)) (fun gh=>l.length - gh.1) ((0,l.length,2,G)) (by exact H.sub ⟨O,O,O,aH⟩) ?_ ?_
 ·exact ⟨dO _,Nat.sub_le _ _,O,hv⟩
 clear H;rintro ⟨n,f,kd,g⟩ a w hI H;dsimp only at hI H;obtain ⟨hn,hf,heq,cB⟩:=hI;dsimp only [lca,bR] at H;refine kP H (SQ fun _ K1=>SR fun _ K2=>Rm O (Rm O (Rl ji O (Rc O (Kz K2 (Cd O ?_ ?_)))))) <;> clear H K2
 ·intro h7 a H
  try have p7:=dT h7
  first
  | (exfalso;omega)
  | (exact absurd h7 Y)
  |skip
   have hn2:n < l.length:=by omega
   rw [Vo hf hn2] at heq;obtain ⟨b,o,rfl,-⟩:=Dz cB hn2;refine kP H (Kc K1 (SB (SQ fun _ K2=>SB (SR fun _ K4=>Rm O (Rm O ?_)))));clear H K1;intro a H;refine bO ji gF n H wn O O V V O ?_;clear H;intro a H;refine dL gF (cs:=[_,_,_]) H wn O O (fun j v hj=>H.hp.aQ (lu cB (k:=n) V j v hj)) O ?_;clear H;intro a H;refine eU bP aG [_] [_] H wn O O O O O (by intro i q h;match i,h with|0,h=>exact h|n+1,h=>simp at h) O O ?_;clear H;intro b15 a w agH H;obtain ⟨Gq,iE,hq,H⟩:=H.oI (sz:=1) (d:=eF 5) O (nZ _ 5);replace cB:=cB.mono iE;refine s_call mH H wn O (mK _ _ H.ro l[n] [5] _ hq) O ?_;clear H;rintro v16 _ a w ⟨rfl,rfl⟩ - H;rw [is1 V 5] at H;refine kH H (au K4 O (Cd O ?_ ?_)) <;> clear H K4
   ·intro h10 a H
    try have nE:=dT h10
    first
    | (exfalso;omega)
    | (exact absurd h10 Y)
    |skip
     refine kP H (SC (cO K2 O (SC (Rm O (Rd O (Ra O ?_))))));clear H K2;intro a H;refine aB ?_;refine aX ((n+1,f - 1,1,Gq)) (by exact H.sub ⟨O,O,O,aH⟩) ?_
     (try dsimp only);exact ⟨V,V,by rw [aM (show okW l n=true by simp only [okW,gG];omega),aM nE] at heq;exact heq,cB⟩
   intro h10 a H
   try have nE:=dF h10
   first
   | (exfalso;omega)
   | (exact absurd h10 Y)
   |skip
    refine kP H (SR fun _ K1=>Rm O (Rm O ?_));clear H;intro a H;refine bO ji gF n H wn O O V V O ?_;clear H;intro a H;refine dL gF (cs:=[_,_,_]) H wn O O (fun j v hj=>H.hp.aQ (lu cB (k:=n) V j v hj)) O ?_;clear H;intro a H;refine eU bP aG [_] [_] H wn O O O O O (by intro i q h;match i,h with|0,h=>exact h|n+1,h=>simp at h) O O ?_;clear H;intro mD a w Iz H;obtain ⟨Gq,iE,hq,H⟩:=H.oI (sz:=1) (d:=eF 6) O (nZ _ 6);replace cB:=cB.mono iE;refine s_call mH H wn O (mK _ _ H.ro l[n] [6] _ hq) O ?_;clear H;rintro v23 _ a w ⟨rfl,rfl⟩ - H;rw [is1 V 6] at H;refine kH H (au K1 O (Cd O ?_ ?_)) <;> clear H K1
    ·intro dH a H
     try have jY:=dT dH
     first
     | (exfalso;omega)
     | (exact absurd dH Y)
     exact Gp
    intro dH a H
    try have jY:=dF dH
    first
    | (exfalso;omega)
    | (exact absurd dH Y)
    |skip
     refine kP H (SR fun _ K1=>Rm O (Rc O (Rm O (Sp 27 O ?_ ?_)))) <;> clear H
     ·intro h27 a H
      try have p27:=dT h27
      first
      | (exfalso;omega)
      | (exact absurd h27 Y)
      |skip
       refine kH H (YM h27 O ?_);clear H;intro a H;refine rV _ H (wg H O O h27) O O O V V O ?_;clear H;intro a H;refine kH H (YM h27 O (YL ji h27 O (YC h27 O (Pt h27 O (Rm O (Sp 34 O ?_ ?_)))))) <;> clear H
       ·intro iX a H
        try have p34:=dT iX
        first
        | (exfalso;omega)
        | (exact absurd iX Y)
        |skip
         refine kH H (YM iX O (YM iX O ?_));clear H;intro a H;refine bO ji gF n H (wg H O O iX) O O V V O ?_;clear H;intro a H;refine dL gF (cs:=[_,_,_]) H (wg H O O iX) O O (fun j v hj=>H.hp.aQ (lu cB (k:=n) V j v hj)) O ?_;clear H;intro a H;refine eU bP aG [_] [_] H (wg H O O iX) O O O O O (by intro i q h;match i,h with|0,h=>exact h|n+1,h=>simp at h) O O ?_;clear H;intro mE a w Eh H;obtain ⟨Gq,iE,hq,H⟩:=H.oI (sz:=1) (d:=eF 11) O (nZ _ 11);replace cB:=cB.mono iE;refine s_call mH H (wg H O O iX) O (mK _ _ H.ro l[n] [11] _ hq) O ?_;clear H;rintro v40 _ a w ⟨rfl,rfl⟩ - H;rw [is1 V 11] at H;refine kH H (Pt iX O (Rm O (Sp 42 O ?_ ?_))) <;> clear H
         ·intro iO a H
          try have p42:=dT iO
          first
          | (exfalso;omega)
          | (exact absurd iO Y)
          |skip
           refine kH H (YM iO O (YM iO O ?_));clear H;intro a H;refine ES _ H (wg H O O iO) O O O V V O ?_;clear H;intro a H;refine bO ji gF (n - 1) H (wg H O O iO) O O V V O ?_;clear H;intro a H;refine dL gF (cs:=[_,_,_]) H (wg H O O iO) O O (fun j v hj=>H.hp.aQ (lu cB (k:=(n - 1)) V j v hj)) O ?_;clear H;intro a H;refine eU bP aG [_] [_] H (wg H O O iO) O O O O O (by intro i q h;match i,h with|0,h=>exact h|n+1,h=>simp at h) O O ?_;clear H;intro b48 a w hb48 H;obtain ⟨Gq,iE,hq,H⟩:=H.oI (sz:=1) (d:=eF 5) O (nZ _ 5);replace cB:=cB.mono iE;refine s_call mH H (wg H O O iO) O (mK _ _ H.ro l[(n - 1)] [5] _ hq) O ?_;clear H;rintro v49 _ a w ⟨rfl,rfl⟩ - H;rw [is1 V 5] at H;refine kH H (Pt iO O (Rm O (Sp 51 O ?_ ?_))) <;> clear H
           ·intro jE a H
            try have p51:=dT jE
            first
            | (exfalso;omega)
            | (exact absurd jE Y)
            |skip
             refine kH H (YM jE O (YM jE O ?_));clear H;intro a H;refine rV _ H (wg H O O jE) O O O V V O ?_;clear H;intro a H;refine bO ji gF (n+1) H (wg H O O jE) O O V V O ?_;clear H;intro a H;refine dL gF (cs:=[_,_,_]) H (wg H O O jE) O O (fun j v hj=>H.hp.aQ (lu cB (k:=(n+1)) V j v hj)) O ?_;clear H;intro a H;refine eU bP aG [_] [_] H (wg H O O jE) O O O O O (by intro i q h;match i,h with|0,h=>exact h|n+1,h=>simp at h) O O ?_;clear H;intro Wh a w aay H;obtain ⟨Gq,iE,hq,H⟩:=H.oI (sz:=1) (d:=eF 5) O (nZ _ 5);replace cB:=cB.mono iE;refine s_call mH H (wg H O O jE) O (mK _ _ H.ro l[(n+1)] [5] _ hq) O ?_;clear H;rintro v58 _ a w ⟨rfl,rfl⟩ - H;rw [is1 V 5] at H;refine kH H (Pt jE O (au K1 O (Cd O ?_ ?_))) <;> clear H K1
             ·intro aS a H
              try have gH:=dT aS
              first
              | (exfalso;omega)
              | (exact absurd aS Y)
              exact Gp
             intro aS a H
             try have gH:=dF aS
             first
             | (exfalso;omega)
             | (exact absurd aS Y)
             |skip
              refine kP H (SR fun _ K1=>Rm O (Rc O (Rm O (Sp 63 O ?_ ?_)))) <;> clear H
              ·intro h63 a H
               try have p63:=dT h63
               first
               | (exfalso;omega)
               | (exact absurd h63 Y)
               |skip
                refine kH H (YM h63 O ?_);clear H;intro a H;refine rV _ H (wg H O O h63) O O O V V O ?_;clear H;intro a H;refine kH H (YM h63 O (YL ji h63 O (YC h63 O (Pt h63 O (Rm O (Sp 70 O ?_ ?_)))))) <;> clear H
                ·intro gL a H
                 try have p70:=dT gL
                 first
                 | (exfalso;omega)
                 | (exact absurd gL Y)
                 |skip
                  refine kH H (YM gL O (YM gL O ?_));clear H;intro a H;refine bO ji gF n H (wg H O O gL) O O V V O ?_;clear H;intro a H;refine dL gF (cs:=[_,_,_]) H (wg H O O gL) O O (fun j v hj=>H.hp.aQ (lu cB (k:=n) V j v hj)) O ?_;clear H;intro a H;refine eU bP aG [_] [_] H (wg H O O gL) O O O O O (by intro i q h;match i,h with|0,h=>exact h|n+1,h=>simp at h) O O ?_;clear H;intro Wi a w aaA H;obtain ⟨Gq,iE,hq,H⟩:=H.oI (sz:=1) (d:=eF 10) O (nZ _ 10);replace cB:=cB.mono iE;refine s_call mH H (wg H O O gL) O (mK _ _ H.ro l[n] [10] _ hq) O ?_;clear H;rintro v76 _ a w ⟨rfl,rfl⟩ - H;rw [is1 V 10] at H;refine kH H (Pt gL O (Rm O (Sp 78 O ?_ ?_))) <;> clear H
                  ·intro gM a H
                   try have JJ:=dT gM
                   first
                   | (exfalso;omega)
                   | (exact absurd gM Y)
                   |skip
                    refine kH H (YM gM O (YM gM O ?_));clear H;intro a H;refine ES _ H (wg H O O gM) O O O V V O ?_;clear H;intro a H;refine bO ji gF (n - 1) H (wg H O O gM) O O V V O ?_;clear H;intro a H;refine dL gF (cs:=[_,_,_]) H (wg H O O gM) O O (fun j v hj=>H.hp.aQ (lu cB (k:=(n - 1)) V j v hj)) O ?_;clear H;intro a H;refine eU bP aG [_] [_] H (wg H O O gM) O O O O O (by intro i q h;match i,h with|0,h=>exact h|n+1,h=>simp at h) O O ?_;clear H;intro Wj a w aaB H;obtain ⟨Gq,iE,hq,H⟩:=H.oI (sz:=1) (d:=eF 6) O (nZ _ 6);replace cB:=cB.mono iE;refine s_call mH H (wg H O O gM) O (mK _ _ H.ro l[(n - 1)] [6] _ hq) O ?_;clear H;rintro v85 _ a w ⟨rfl,rfl⟩ - H;rw [is1 V 6] at H;refine kH H (Pt gM O (Rm O (Sp 87 O ?_ ?_))) <;> clear H
                    ·intro h87 a H
                     try have JL:=dT h87
                     first
                     | (exfalso;omega)
                     | (exact absurd h87 Y)
                     |skip
                      refine kH H (YM h87 O (YM h87 O ?_));clear H;intro a H;refine rV _ H (wg H O O h87) O O O V V O ?_;clear H;intro a H;refine bO ji gF (n+1) H (wg H O O h87) O O V V O ?_;clear H;intro a H;refine dL gF (cs:=[_,_,_]) H (wg H O O h87) O O (fun j v hj=>H.hp.aQ (lu cB (k:=(n+1)) V j v hj)) O ?_;clear H;intro a H;refine eU bP aG [_] [_] H (wg H O O h87) O O O O O (by intro i q h;match i,h with|0,h=>exact h|n+1,h=>simp at h) O O ?_;clear H;intro Wm a w aaC H;obtain ⟨Gq,iE,hq,H⟩:=H.oI (sz:=1) (d:=eF 6) O (nZ _ 6);replace cB:=cB.mono iE;refine s_call mH H (wg H O O h87) O (mK _ _ H.ro l[(n+1)] [6] _ hq) O ?_;clear H;rintro v94 _ a w ⟨rfl,rfl⟩ - H;rw [is1 V 6] at H;refine kH H (Pt h87 O (au K1 O (Cd O ?_ ?_))) <;> clear H K1
                      ·intro iP a H
                       try have p60:=dT iP
                       first
                       | (exfalso;omega)
                       | (exact absurd iP Y)
                       exact Gp
                      intro iP a H
                      try have p60:=dF iP
                      first
                      | (exfalso;omega)
                      | (exact absurd iP Y)
                      |skip
                       refine kP H (SR fun _ K1=>Rm O (Rm O (Ra O (au K1 O ?_))));clear H K1;intro a H;refine bN ?_;refine (bZ H results79 (.cons (aJ H O) (.cons (aJ H O) .nil)) ?_).1
                       have hfin:(n,kd)=kZ l:=by
                        exact nR
                       exact nS
                    intro h87 a H
                    try have JL:=dF h87
                    first
                    | (exfalso;omega)
                    | (exact absurd h87 Y)
                    |skip
                     refine kH H (aU h87 O (aR h87 O (aR h87 O (Pf h87 O (au K1 O (Cf O O (SR fun _ K4=>Rm O (Rm O (Ra O (au K4 O ?_))))))))));clear H K1 K4;intro a H;refine bN ?_;refine (bZ H results79 (.cons (aJ H O) (.cons (aJ H O) .nil)) ?_).1
                     have hfin:(n,kd)=kZ l:=by
                      exact nR
                     exact nS
                  intro gM a H
                  try have JJ:=dF gM
                  first
                  | (exfalso;omega)
                  | (exact absurd gM Y)
                  |skip
                   refine kH H (aU gM O (aR gM O (aR gM O (Pf gM O (Rm O (aU O O (aR O O (aR O O (Pf O O (au K1 O (Cf O O (SR fun _ K4=>Rm O (Rm O (Ra O (au K4 O ?_)))))))))))))));clear H K1 K4;intro a H;refine bN ?_;refine (bZ H results79 (.cons (aJ H O) (.cons (aJ H O) .nil)) ?_).1
                   have hfin:(n,kd)=kZ l:=by
                    exact nR
                   exact nS
                intro gL a H
                try have p70:=dF gL
                first
                | (exfalso;omega)
                | (exact absurd gL Y)
                |skip
                 refine kH H (aU gL O (aU gL O (Pf gL O (Rm O (aU O O (aR O O (aR O O (Pf O O (Rm O (aU O O (aR O O (aR O O (Pf O O (au K1 O (Cf O O (SR fun _ K4=>Rm O (Rm O (Ra O (au K4 O ?_)))))))))))))))))));clear H K1 K4;intro a H;refine bN ?_;refine (bZ H results79 (.cons (aJ H O) (.cons (aJ H O) .nil)) ?_).1
                 have hfin:(n,kd)=kZ l:=by
                  exact nR
                 exact nS
              intro h63 a H
              try have p63:=dF h63
              first
              | (exfalso;omega)
              | (exact absurd h63 Y)
              |skip
               refine kH H (aU h63 O (aR h63 O (Pf h63 O (Rm O (aU O O (aU O O (Pf O O (Rm O (aU O O (aR O O (aR O O (Pf O O (Rm O (aU O O (aR O O (aR O O (Pf O O (au K1 O (Cf O O (SR fun _ K4=>Rm O (Rm O (Ra O (Ra O ?_)))))))))))))))))))))));clear H K1;intro a H;refine K4 _ _ ?_;clear K4;refine bN ?_;refine (bZ H results79 (.cons (aJ H O) (.cons (aJ H O) .nil)) ?_).1
               have hfin:(n,kd)=kZ l:=by
                exact nR
               exact nS
           intro jE a H
           try have p51:=dF jE
           first
           | (exfalso;omega)
           | (exact absurd jE Y)
           |skip
            refine kH H (aU jE O (aR jE O (aR jE O (Pf jE O (au K1 O (Cf O O (SR fun _ K4=>Rm O (Rc O (Rm O (Sp 63 O ?_ ?_)))))))))) <;> clear H K1
            ·exact CY
            intro h63 a H
            try have p63:=dF h63
            first
            | (exfalso;omega)
            | (exact absurd h63 Y)
            |skip
             refine kH H (aU h63 O (aR h63 O (Pf h63 O (Rm O (aU O O (aU O O (Pf O O (Rm O (aU O O (aR O O (aR O O (Pf O O (Rm O (aU O O (aR O O (aR O O (Pf O O (au K4 O (Cf O O (SR fun _ K1=>Rm O (Rm O (Ra O (Ra O ?_)))))))))))))))))))))));clear H K4;intro a H;refine K1 _ _ ?_;clear K1;refine bN ?_;refine (bZ H results79 (.cons (aJ H O) (.cons (aJ H O) .nil)) ?_).1
             have hfin:(n,kd)=kZ l:=by
              exact nR
             exact nS
         intro iO a H
         try have p42:=dF iO
         first
         | (exfalso;omega)
         | (exact absurd iO Y)
         |skip
          refine kH H (aU iO O (aR iO O (aR iO O (Pf iO O (Rm O (aU O O (aR O O (aR O O (Pf O O (au K1 O (Cf O O (SR fun _ K4=>Rm O (Rc O (Rm O (Sp 63 O ?_ ?_))))))))))))))) <;> clear H K1
          ·exact CY
          intro h63 a H
          try have p63:=dF h63
          first
          | (exfalso;omega)
          | (exact absurd h63 Y)
          |skip
           refine kH H (aU h63 O (aR h63 O (Pf h63 O (Rm O (aU O O (aU O O (Pf O O (Rm O (aU O O (aR O O (aR O O (Pf O O (Rm O (aU O O (aR O O (aR O O (Pf O O (au K4 O (Cf O O (SR fun _ K1=>Rm O (Rm O (Ra O (Ra O ?_)))))))))))))))))))))));clear H K4;intro a H;refine K1 _ _ ?_;clear K1;refine bN ?_;refine (bZ H results79 (.cons (aJ H O) (.cons (aJ H O) .nil)) ?_).1
           have hfin:(n,kd)=kZ l:=by
            exact nR
           exact nS
       intro iX a H
       try have p34:=dF iX
       first
       | (exfalso;omega)
       | (exact absurd iX Y)
       |skip
        refine kH H (aU iX O (aU iX O (Pf iX O (Rm O (aU O O (aR O O (aR O O (Pf O O (Rm O (aU O O (aR O O (aR O O (Pf O O (au K1 O (Cf O O (SR fun _ K4=>Rm O (Rc O (Rm O (Sp 63 O ?_ ?_))))))))))))))))))) <;> clear H K1
        ·exact CY
        intro h63 a H
        try have p63:=dF h63
        first
        | (exfalso;omega)
        | (exact absurd h63 Y)
        |skip
         refine kH H (aU h63 O (aR h63 O (Pf h63 O (Rm O (aU O O (aU O O (Pf O O (Rm O (aU O O (aR O O (aR O O (Pf O O (Rm O (aU O O (aR O O (aR O O (Pf O O (au K4 O (Cf O O (SR fun _ K1=>Rm O (Rm O (Ra O (Ra O ?_)))))))))))))))))))))));clear H K4;intro a H;refine K1 _ _ ?_;clear K1;refine bN ?_;refine (bZ H results79 (.cons (aJ H O) (.cons (aJ H O) .nil)) ?_).1
         have hfin:(n,kd)=kZ l:=by
          exact nR
         exact nS
     intro h27 a H
     try have p27:=dF h27
     first
     | (exfalso;omega)
     | (exact absurd h27 Y)
     |skip
      refine kH H (aU h27 O (aR h27 O (Pf h27 O (Rm O (aU O O (aU O O (Pf O O (Rm O (aU O O (aR O O (aR O O (Pf O O (Rm O (aU O O (aR O O (aR O O (Pf O O (au K1 O (Cf O O (SR fun _ K4=>Rm O (Rc O (Rm O (Sp 63 O ?_ ?_))))))))))))))))))))))) <;> clear H K1
      ·exact CY
      intro h63 a H
      try have p63:=dF h63
      first
      | (exfalso;omega)
      | (exact absurd h63 Y)
      |skip
       refine kH H (aU h63 O (aR h63 O (Pf h63 O (Rm O (aU O O (aU O O (Pf O O (Rm O (aU O O (aR O O (aR O O (Pf O O (Rm O (aU O O (aR O O (aR O O (Pf O O (au K4 O (Cf O O (SR fun _ K1=>Rm O (Rm O (Ra O (Ra O ?_)))))))))))))))))))))));clear H K4;intro a H;refine K1 _ _ ?_;clear K1;refine bN ?_;refine (bZ H results79 (.cons (aJ H O) (.cons (aJ H O) .nil)) ?_).1
       have hfin:(n,kd)=kZ l:=by
        exact nR
       exact nS
 intro h7 a H
 try have p7:=dF h7
 first
 | (exfalso;omega)
 | (exact absurd h7 Y)
 |skip
  rw [afO V] at heq;refine bQ ?_;refine K3 _ _ ?_;clear K3;refine kP H (SR fun _ K2=>Rm O (Rm O (Ra O (au K2 O ?_))));clear H K2;intro a H;refine bN ?_;refine (bZ H results79 (.cons (aJ H O) (.cons (aJ H O) .nil)) ?_).1
  have hfin:(n,kd)=kZ l:=by
   exact nR
  exact nS
def pV (l:List dx):Nat->Nat->Nat
 | 0,n=>n
 | f+1,n=>if n < l.length∧(iI l n=2∨iI l n=3) then pV l f (n+1) else n
theorem Ur {l:List dx} {f n:Nat} (hf:l.length - n<=f) (h:n < l.length∧(iI l n=2∨iI l n=3)):pV l f n=pV l (f - 1) (n+1):=by
 match f,hf with
 | 0,hf=>omega
 | f+1,_=>rw [pV,aM h];rfl
theorem aez {l:List dx} {f n:Nat} (h:¬ (n < l.length∧(iI l n=2∨iI l n=3))):pV l f n=n:=by
 match f with
 | 0=>rfl
 | f+1=>rw [pV,aL h]
def jX (l:List dx):Nat × Int :=
 if iI l 0=5∨iI l 0=6 then kZ l
 else if iI l 0=2∨iI l 0=3 then (pV l l.length 0,3)
 else if iI l 0=1 then (1,6)
 else if iI l 0=7 then (1,5)
 else (1,4)
theorem KF {G:GH} {b x y:Nat} (hb:G b=some (.cells #[vi x,vi y] 3 (0,0))):ay G (.sl 1 (([(x:Int),(y:Int)]).map eF)) (.slice (some ⟨b,0,none⟩) 2 2) :=
 ay.mP (xs:=[vi x,vi y]) hb O (aV _) Y (gX (aV _)) (wO _ [(x:Int),(y:Int)])
theorem Ml {p:Prop} (h:p:=by
 exact H.rt (by rw [jX,aL p4,aM jr,<- heq,aez V])):p:=h
set_option maxHeartbeats 1000000 in
theorem acI (G:GH) (w0:World) (hG:Hold G w0) (l:List dx) (v:aj) (hv:ay G (.sl 3 (l.map dx.dat)) v) (hl:0 < l.length) :
  Calls prog 69 #[v] w0 (bK w0 G fun u G'=>u=.tuple #[vi (jX l).1,vi (jX l).2]):=by
 obtain ⟨A,c,rfl,hc1,hc2,-⟩:=hv.slice;have hml:maxLen=9223372036854775807:=rfl;rw [bG] at *;obtain ⟨b,o,rfl,-⟩:=Dz hv hl;have cB:=hv;refine eN [(0,_)] func69 O ntmps69 O O hG ?_;intro a H;refine kP H (SR fun _ K1=>Ra O (au K1 O (SQ fun _ K2=>SB (SR fun _ K3=>Rm O ?_))));clear H K1;intro a H;refine bO ji gF 0 H wn O O V V O ?_;clear H;intro a H;refine dL gF (cs:=[_,_,_]) H wn O O (fun j v hj=>H.hp.aQ (lu cB (k:=0) V j v hj)) O ?_;clear H;intro a H;refine eU bP aG [_,_] [_,_] H wn O O O O O (by intro i q h;match i,h with|0,h=>exact h|1,h=>exact h|n+2,h=>simp at h) O O ?_;clear H;intro b8 a w Q8 H;obtain ⟨Gq,iE,BD,H⟩:=H.gP;have hq:=KF (x:=5) (y:=6) BD;replace cB:=cB.mono iE;refine s_call mH H wn O (mK _ _ H.ro l[0] [5,6] _ hq) O ?_;clear H;rintro v9 _ a w ⟨rfl,rfl⟩ - H;rw [is2 V 5 6] at H;refine kH H (au K3 O (Cd O ?_ ?_)) <;> clear H K3
 ·intro h4 a H
  try have p4:=dT h4
  first
  | (exfalso;omega)
  | (exact absurd h4 Y)
  |skip
   refine kP H (SR fun _ K1=>Rm O ?_);clear H;intro a H;refine s_call Zb H wn O (afM _ _ H.ro l _ cB) O ?_;clear H;rintro v11 _ a w rfl - H;(iterate 2 refine fG H wn O O O ?_;clear H;intro a H);refine kH H (Ra O (au K1 O ?_));clear H K1;intro a H;refine bN ?_;refine (bZ H results69 (.cons (aJ H O) (.cons (aJ H O) .nil)) ?_).1;exact H.rt (by rw [jX,aM p4])
 intro h4 a H
 try have p4:=dF h4
 first
 | (exfalso;omega)
 | (exact absurd h4 Y)
 |skip
  refine kP H (SR fun _ K1=>Rm O ?_);clear H;intro a H;refine bO ji gF 0 H wn O O V V O ?_;clear H;intro a H;refine dL gF (cs:=[_,_,_]) H wn O O (fun j v hj=>H.hp.aQ (lu cB (k:=0) V j v hj)) O ?_;clear H;intro a H;refine eU bP aG [_,_] [_,_] H wn O O O O O (by intro i q h;match i,h with|0,h=>exact h|1,h=>exact h|n+2,h=>simp at h) O O ?_;clear H;intro b18 a w Q7 H;obtain ⟨Gq,iE,BD,H⟩:=H.gP;have hq:=KF (x:=2) (y:=3) BD;replace cB:=cB.mono iE;refine s_call mH H wn O (mK _ _ H.ro l[0] [2,3] _ hq) O ?_;clear H;rintro v19 _ a w ⟨rfl,rfl⟩ - H;rw [is2 V 2 3] at H;refine kH H (au K1 O (Cd O ?_ ?_)) <;> clear H K1
  ·intro dQ a H
   try have jr:=dT dQ
   first
   | (exfalso;omega)
   | (exact absurd dQ Y)
   |skip
    refine fT (fun _ K1=>?_);refine uP ?_;skip;refine dz (ι:=Nat × Nat × GH) (Tc:=[(0,_)]) (Lc:=[]) (fun gh=>[(2,vi gh.1)]) (fun gh=>[]) (fun gh=>gh.2.2) (fun gh=>gh.1<=l.length∧l.length - gh.1<=gh.2.1∧pV l gh.2.1 gh.1=pV l l.length 0∧ay gh.2.2 (.sl 3 (l.map dx.dat)) (.slice (some ⟨b,o,none⟩) l.length c)) (fun gh=>l.length - gh.1) ((0,l.length,Gq)) (by exact H.sub ⟨O,O,aH⟩) ?_ ?_
    ·exact ⟨dO _,Nat.sub_le _ _,O,cB⟩
    clear H;rintro ⟨n,f,g⟩ a w hI H;dsimp only at hI H;obtain ⟨hn,hf,heq,cB⟩:=hI;dsimp only [lca,bR] at H;refine kP H (SQ fun _ K3=>SR fun _ K4=>Rm O (Rm O (Rl ji O (Rc O (Rm O (Sp 24 O ?_ ?_)))))) <;> clear H
    ·intro aS a H
     try have gH:=dT aS
     first
     | (exfalso;omega)
     | (exact absurd aS Y)
     |skip
      refine kH H (YM aS O (YM aS O ?_));clear H;intro a H;refine bO ji gF n H (wg H O O aS) O O V V O ?_;clear H;intro a H;refine dL gF (cs:=[_,_,_]) H (wg H O O aS) O O (fun j v hj=>H.hp.aQ (lu cB (k:=n) V j v hj)) O ?_;clear H;intro a H;refine eU bP aG [_,_] [_,_] H (wg H O O aS) O O O O O (by intro i q h;match i,h with|0,h=>exact h|1,h=>exact h|n+2,h=>simp at h) O O ?_;clear H;intro b29 a w agO H;obtain ⟨Gq,iE,BD,H⟩:=H.gP;have hq:=KF (x:=2) (y:=3) BD;replace cB:=cB.mono iE;refine s_call mH H (wg H O O aS) O (mK _ _ H.ro l[n] [2,3] _ hq) O ?_;clear H;rintro v30 _ a w ⟨rfl,rfl⟩ - H;rw [is2 V 2 3] at H;refine kH H (Pt aS O (Kz K4 (Cd O ?_ ?_))) <;> clear H K4
      ·intro h31 a H
       try have p31:=dT h31
       first
       | (exfalso;omega)
       | (exact absurd h31 Y)
       |skip
        refine kP H (Kc K3 (SB (SC (Rm O (Rd O (Ra O ?_))))));clear H K3;intro a H;refine aB ?_;refine aX ((n+1,f - 1,Gq)) (by exact H.sub ⟨O,O,aH⟩) ?_
        (try dsimp only);exact ⟨V,V,by rw [Ur hf ⟨V,p31⟩] at heq;exact heq,cB⟩
      intro h31 a H
      try have p31:=dF h31
      first
      | (exfalso;omega)
      | (exact absurd h31 Y)
      |skip
       refine bQ ?_;refine K1 _ _ ?_;clear K1;refine kP H (SR fun _ K1=>Rm O (Ra O (au K1 O ?_)));clear H K1;intro a H;refine bN ?_;refine (bZ H results69 (.cons (aJ H O) (.cons (aJ H O) .nil)) ?_).1;exact Ml
    intro aS a H
    try have gH:=dF aS
    first
    | (exfalso;omega)
    | (exact absurd aS Y)
    |skip
     refine kH H (aU aS O (aU aS O (Pf aS O (Kz K4 (Cf O O ?_)))));clear H K4;intro a H;refine bQ ?_;refine K1 _ _ ?_;clear K1;refine kP H (SR fun _ K1=>Rm O (Ra O (au K1 O ?_)));clear H K1;intro a H;refine bN ?_;refine (bZ H results69 (.cons (aJ H O) (.cons (aJ H O) .nil)) ?_).1;exact Ml
  intro dQ a H
  try have jr:=dF dQ
  first
  | (exfalso;omega)
  | (exact absurd dQ Y)
  |skip
   refine kP H (SR fun _ K1=>Rm O ?_);clear H;intro a H;refine bO ji gF 0 H wn O O V V O ?_;clear H;intro a H;refine dL gF (cs:=[_,_,_]) H wn O O (fun j v hj=>H.hp.aQ (lu cB (k:=0) V j v hj)) O ?_;clear H;intro a H;refine eU bP aG [_] [_] H wn O O O O O (by intro i q h;match i,h with|0,h=>exact h|n+1,h=>simp at h) O O ?_;clear H;intro mE a w Eh H;obtain ⟨Gq,iE,hq,H⟩:=H.oI (sz:=1) (d:=eF 1) O (nZ _ 1);replace cB:=cB.mono iE;refine s_call mH H wn O (mK _ _ H.ro l[0] [1] _ hq) O ?_;clear H;rintro v40 _ a w ⟨rfl,rfl⟩ - H;rw [is1 V 1] at H;refine kH H (au K1 O (Cd O ?_ ?_)) <;> clear H K1
   ·intro lT a H
    try have p35:=dT lT
    first
    | (exfalso;omega)
    | (exact absurd lT Y)
    |skip
     refine kP H (SR fun _ K1=>Ra O (au K1 O ?_));clear H K1;intro a H;refine bN ?_;refine (bZ H results69 (.cons (aJ H O) (.cons (aJ H O) .nil)) ?_).1;exact H.rt (by rw [jX,aL p4,aL jr,aM p35];rfl)
   intro lT a H
   try have p35:=dF lT
   first
   | (exfalso;omega)
   | (exact absurd lT Y)
   |skip
    refine kP H (SR fun _ K1=>Rm O ?_);clear H;intro a H;refine bO ji gF 0 H wn O O V V O ?_;clear H;intro a H;refine dL gF (cs:=[_,_,_]) H wn O O (fun j v hj=>H.hp.aQ (lu cB (k:=0) V j v hj)) O ?_;clear H;intro a H;refine eU bP aG [_] [_] H wn O O O O O (by intro i q h;match i,h with|0,h=>exact h|n+1,h=>simp at h) O O ?_;clear H;intro Wd a w aax H;obtain ⟨Gq,iE,hq,H⟩:=H.oI (sz:=1) (d:=eF 7) O (nZ _ 7);replace cB:=cB.mono iE;refine s_call mH H wn O (mK _ _ H.ro l[0] [7] _ hq) O ?_;clear H;rintro v46 _ a w ⟨rfl,rfl⟩ - H;rw [is1 V 7] at H;refine kH H (au K1 O (Cd O ?_ ?_)) <;> clear H K1
    ·intro Bf a H
     try have p41:=dT Bf
     first
     | (exfalso;omega)
     | (exact absurd Bf Y)
     |skip
      refine kP H (SR fun _ K1=>Ra O (au K1 O ?_));clear H K1;intro a H;refine bN ?_;refine (bZ H results69 (.cons (aJ H O) (.cons (aJ H O) .nil)) ?_).1;exact H.rt (by rw [jX,aL p4,aL jr,aL p35,aM p41];rfl)
    intro Bf a H
    try have p41:=dF Bf
    first
    | (exfalso;omega)
    | (exact absurd Bf Y)
    |skip
     refine kP H (Kc K2 (SR fun _ K1=>Ra O (au K1 O ?_)));clear H K2 K1;intro a H;refine bN ?_;refine (bZ H results69 (.cons (aJ H O) (.cons (aJ H O) .nil)) ?_).1;exact H.rt (by rw [jX,aL p4,aL jr,aL p35,aL p41];rfl)
section
section
variable {P:Program} {N:Nat} {D:List Deferred} {w0 w w':World} {F:Nat->Prop} {G0 G G':GH} {L L' Li Lo:OL} {T:List (Nat × aj)} {a a':Act} {Q:Exit->Act->World->Prop}
variable {r:Option Nat} {ops:Array Oper} {rest:List Oper}
def uD (P:Program) (Gi:GH) (B:OL) (gv:aj) (xs:List AP):Prop :=
 ∀ (J:Nat->GH->OL->Prop) (Jx:GH->OL->Prop) (fv:aj) (G:GH) (L:OL) (w:World),fv.cells=#[fv]->(∀ b o,Gi b=some o->G b=some o)->CB J->CP Jx->J 0 G L->jc G (B++L) w->FC P fv G xs J Jx ->
  qV P gv [fv] w (jd w G (B++L) fun _ G' L'=>J xs.length G' L'∨Jx G' L')
theorem uD.mono {Gi Aa:GH} {B:OL} {gv:aj} {xs:List AP} (h:uD P Gi B gv xs) (hm:∀ b o,Gi b=some o->Aa b=some o):uD P Aa B gv xs :=
 fun J Jx fv G L w h0 h1=>h J Jx fv G L w h0 fun b o hb=>h1 b o (hm b o hb)
theorem Xm {B:OL} {qC:Operand} {ps:List Nat} {assign body:Code} {gf:FuncId} {caps:List aj} {xs:List AP} {Gi:GH}
  (H:St N D w0 F G0 G (B++L) T a w) (hg:ev T qC=some (.func (.func gf) #[] caps.toArray)) (en:∀ args w,(callFunc gf args).run P w=.ok (.enter gf args) w) (hit:uD P Gi B (.func (.func gf) #[] caps.toArray) xs) (hGi:∀ b o,Gi b=some o->G b=some o)
  (hps:ps.all (Nat.blt · N)=true) (hlen:∀ k args g,pY xs k args g->args.length=ps.length)
  (J:Nat->GH->OL->Prop) (Jx:Code->GH->OL->Prop) (rM:CB J) (hJx:∀ c,CP (Jx c)) (h0:J 0 G L) (Jm:FL P N ps assign body T G J Jx xs)
  (hdone:∀ Dk G1 L1 a1 w1,(∀ b o,G b=some o->G1 b=some o)->J xs.length G1 L1->St N ({ target:=.collected Dk,args:=#[] } :: D) w0 F G0 G1 ((Dk,.deferred (some [])) :: L1) T a1 w1->Q .normal a1 w1)
  (hstop:∀ Dk c G1 L1 a1 w1,(∀ b o,G b=some o->G1 b=some o)->Jx c G1 L1->St N ({ target:=.collected Dk,args:=#[] } :: D) w0 F G0 G1 ((Dk,.deferred (some [])) :: L1) T a1 w1->WP none P c Q a1 w1) :
  WP none P (.rangeFunc qC ps.toArray assign body) Q a w:=by
 refine wpIn_rangeFunc ?_
 intro fn _
 have hev:=H.ev hg
 let q:Rec:=⟨fn,a.tmps,ps.toArray,assign,body,w.heap.size⟩
 obtain ⟨W1,hW1⟩:∃ W1,W1=(w.alloc (.deferred (some []))).alloc (q.at .ready none):=⟨_,O⟩
 have H1:Hp w0 F G0 G (B++((w.heap.size+1,q.at .ready none) :: (w.heap.size,.deferred (some [])) :: L)) W1:=by
  have:=(H.hp.alloc (.deferred (some []))).alloc (q.at .ready none)
  rw [World.size_alloc] at this
  rw [hW1]
  refine this.perm ?_
  have e:=List.perm_append_comm (l₁:=[(w.heap.size+1,q.at .ready none),(w.heap.size,Obj.deferred (some []))]) (l₂:=B)
  have e2:=List.Perm.append_right L e
  rw [lK,lK] at e2
  exact e2
 refine ⟨w.heap.size+1,[{ target:=.collected w.heap.size,args:=#[] }],W1,{ target:=.fn (.func gf) caps.toArray,args:=#[.func (.yield (w.heap.size+1)) #[] #[]] },W1,gf,
  #[.func (.yield (w.heap.size+1)) #[] #[]]++caps.toArray,W1,by rw [hW1];exact run_enterLoop_outer fn a.tmps ps.toArray assign body,?_,fun _ _=>trivial,?_,Cx none,?_⟩
 ·simp only [resolve,rangeCall,hev]
  simp [Deferred.ofValue,Act.eval]
 ·simp [invoke,en]
 ·have hcv:=hit (fun k=>Jr (w.heap.size+1) q [(w.heap.size,.deferred (some []))] (J k)) (CF (w.heap.size+1) q [(w.heap.size,.deferred (some []))] Jx) (.func (.yield (w.heap.size+1)) #[] #[]) G
   ((w.heap.size+1,q.at .ready none) :: (w.heap.size,.deferred (some [])) :: L) W1 rfl hGi (fun k G G' L hm ⟨Lu,e,h⟩=>⟨Lu,e,rM k G G' Lu hm h⟩) (fun G G' L hm ⟨c,Lu,e,h⟩=>⟨c,Lu,e,hJx c G G' Lu hm h⟩) ⟨L,O,h0⟩ (Hp.owns (Li:=[]) H1) (Pw H.iD H.get hps hlen Jm)
  replace hcv:=hcv.go
  have e:(do let d <- Deferred.ofValue (.func (.func gf) #[] caps.toArray) [Value.func (.yield (w.heap.size+1)) #[] #[]].toArray;invoke d.target d.args:Sem Next).run P W1=.ok (.enter gf (#[.func (.yield (w.heap.size+1)) #[] #[]]++caps.toArray)) W1:=by
   simp [Deferred.ofValue,invoke,en]
  rw [e] at hcv
  refine (GL hcv).mono ?_
  rintro e w2 ⟨v,G2,L2,rfl,hch,hJ⟩
  have H2:=Hp.change (Li:=[]) H1 hch
  rcases hJ with ⟨Lu,rfl,hJ⟩|⟨c,Lu,rfl,hJ⟩
  ·have hl:=H2.own _ (nP)
   have H3:=(H2.upd (i:=0) O (vJ (q.at .exhausted none) hl)).drop (List.sublist_cons_self _ _)
   exact ⟨none,_,run_endLoop hl (by simp),hdone _ G2 Lu _ _ hch.gm hJ ⟨H.iD,H.get,by simp [H.kK],H3⟩⟩
  ·have hl:=H2.own _ (nP)
   have H3:=(H2.upd (i:=0) O (vJ (q.at .exhausted (some c)) hl)).drop (List.sublist_cons_self _ _)
   exact ⟨some c,_,run_endLoop hl (by simp),hstop _ c G2 Lu _ _ hch.gm hJ ⟨H.iD,H.get,by simp [H.kK],H3⟩⟩
theorem Xl {B:OL} {ι κ:Type} {Lc:OL} {qC:Operand} {ps:List Nat} {assign body:Code} {gf:FuncId} {caps:List aj} {xs:List AP} {Gi:GH}
  (Lv:Nat->ι->OL) (Lt:Nat->ι->OL) (inv:Nat->ι->GH->Prop) (cx:κ->Code) (Lx vL:κ->OL) (qG:κ->GH->Prop) (i0:ι)
  (H:St N D w0 F G0 G (B++(Lc++Lv 0 i0++Lt 0 i0)) T a w) (hg:ev T qC=some (.func (.func gf) #[] caps.toArray)) (en:∀ args w,(callFunc gf args).run P w=.ok (.enter gf args) w) (hit:uD P Gi B (.func (.func gf) #[] caps.toArray) xs) (hGi:∀ b o,Gi b=some o->G b=some o)
  (hps:ps.all (Nat.blt · N)=true) (hlen:∀ k args g,pY xs k args g->args.length=ps.length) (hinv:∀ k i (G G':GH),(∀ b o,G b=some o->G' b=some o)->inv k i G->inv k i G') (IV:∀ x (G G':GH),(∀ b o,G b=some o->G' b=some o)->qG x G->qG x G') (h0:inv 0 i0 G)
  (round:∀ (l:Nat) (wP sZ:Obj) (bk:OL) (k:Nat) (args:List aj) (i:ι) (G1:GH) (w1:World) (F1:Nat->Prop) (B1:Code->Exit->Act->World->Prop) (a1:Act),pY xs k args G1->(∀ b o,G b=some o->G1 b=some o)->inv k i G1 ->
   (∀ T' G2 L2 a2 w2 c,St N [] w1 F1 G1 G2 ((l,wP) :: L2) T' a2 w2->(∀ w3,St N [] w1 F1 G1 G2 ((l,sZ) :: L2) T' a2 w3->WP (some l) P c (B1 c) a2 w3)->Exit.then (fun a2 w2=>∃ w3,(Instr.beginRound l).run P w2=.ok () w3∧c.wpIn (FW (some l)) 0 P (B1 c) a2 w3) (fun _ _ _=>False) .normal a2 w2) ->
   (∀ i' T' G2 a2 w2 c,St N [] w1 F1 G1 G2 ((l,sZ) :: (Lc++Lv (k+1) i'++(bk++Lt (k+1) i'))) T' a2 w2->inv (k+1) i' G2->B1 c .normal a2 w2) ->
   (∀ x T' G2 a2 w2 c,St N [] w1 F1 G1 G2 ((l,sZ) :: (Lc++Lx x++(bk++vL x))) T' a2 w2->qG x G2->(cx x=.ret->B1 c .ret a2 w2)∧∀ n,cx x=.exit n->B1 c (.exit n) a2 w2) ->
   St N [] w1 F1 G1 G1 ((l,wP) :: (Lc++Lv k i++(bk++Lt k i))) (ru ps args T) a1 w1 ->
   WP (some l) P assign (Exit.then (fun a2 w2=>∃ w3,(Instr.beginRound l).run P w2=.ok () w3∧body.wpIn (FW (some l)) 0 P (B1 body) a2 w3) (fun _ _ _=>False)) a1 w1)
  (hdone:∀ Dk i G1 a1 w1,(∀ b o,G b=some o->G1 b=some o)->inv xs.length i G1->St N ({ target:=.collected Dk,args:=#[] } :: D) w0 F G0 G1 ((Dk,.deferred (some [])) :: (Lc++Lv xs.length i++Lt xs.length i)) T a1 w1->Q .normal a1 w1)
  (hstop:∀ Dk x G1 a1 w1,(∀ b o,G b=some o->G1 b=some o)->qG x G1->St N ({ target:=.collected Dk,args:=#[] } :: D) w0 F G0 G1 ((Dk,.deferred (some [])) :: (Lc++Lx x++vL x)) T a1 w1->WP none P (cx x) Q a1 w1) :
  WP none P (.rangeFunc qC ps.toArray assign body) Q a w:=by
 refine Xm (J:=fun k g L=>∃ i,L=Lc++Lv k i++Lt k i∧inv k i g) (Jx:=fun c g L=>∃ x,c=cx x∧L=Lc++Lx x++vL x∧qG x g) H hg en hit hGi hps hlen (fun k G G' L hm ⟨i,e,h⟩=>⟨i,e,hinv k i G G' hm h⟩) (fun c G G' L hm ⟨x,e1,e2,h⟩=>⟨x,e1,e2,IV x G G' hm h⟩) ⟨i0,O,h0⟩ ?_ ?_ ?_
 ·rintro l q bk k args G1 L1 w1 a1 hk hm ⟨i,rfl,hi⟩ H1
  have pm:∀ A B:OL,(bk++(A++B)).Perm (A++(bk++B)):=fun A B=>by
   rw [<- lK,<- lK]
   exact List.Perm.append_right B List.perm_append_comm
  refine round l (q.at .ready none) (q.at .busy none) bk k args i G1 w1 _ (fun _=>roundPost P l _) a1 hk hm hi ?_ ?_ ?_ (H1.perm (List.Perm.cons _ (pm _ _)))
  ·intro T' G2 L2 a2 w2 c H2 h
   exact Pq H2 h
  ·intro i' T' G2 a2 w2 c H2 h2
   exact zD none (H2.perm (List.Perm.cons _ (pm _ _).symm)) ⟨_,O,i',O,h2⟩
  ·intro x T' G2 a2 w2 c H2 h2
   have H3:=H2.perm (List.Perm.cons _ (pm _ _).symm)
   refine ⟨fun e=>?_,fun n e=>?_⟩
   ·exact zD (some .ret) H3 ⟨_,_,O,x,e.symm,O,h2⟩
   ·exact zD (some (.exit n)) H3 ⟨_,_,O,x,e.symm,O,h2⟩
 ·rintro Dk G1 L1 a1 w1 hm ⟨i,rfl,hi⟩ H1
  exact hdone Dk i G1 a1 w1 hm hi H1
 ·rintro Dk c G1 L1 a1 w1 hm ⟨x,rfl,rfl,hx⟩ H1
  exact hstop Dk x G1 a1 w1 hm hx H1
end
end
theorem Cn:Ty prog 117 1 24 [.slice none 0 0] false:=⟨Z,Z⟩
theorem Y2:bD 69:=bH func69 O
theorem Zx:fu prog 146 1 1:=⟨Z⟩
theorem Zy:fu prog 146 2 2:=⟨Z⟩
theorem aeA:ow prog 103 [(0,1),(1,1),(2,1)] [.int .i64 0,.int .i64 0,.int .i64 0]:=⟨Z,Z⟩
theorem Qu:bD 68:=bH func68 O
structure dN where
 kind:Int
 from_:Int
 to:Int
def dN.dat (x:dN):List Dat:=[li x.kind,li x.from_,li x.to]
def dN.cells (x:dN):List aj:=[vi x.kind,vi x.from_,vi x.to]
theorem aeX (G:GH) (x:dN):aT G x.dat x.cells:=by
 simp only [dN.dat,dN.cells,aT]
 exact CV
theorem aeW {G:GH} {x:dN} {cs:List aj} (h:aT G x.dat cs):cs=x.cells:=by
 simp only [dN.dat,aT,ay] at h
 exact Dg
theorem Ky {G:GH} {l:List dN} {A:Option Addr} {n c k:Nat} (hv:ay G (.sl 3 (l.map dN.dat)) (.slice A n c)) (hk:k < l.length):∃ b o,A=some ⟨b,o,none⟩∧(∀ j u,[vi l[k].kind,vi l[k].from_,vi l[k].to][j]?=some u->aQ G b (o+k*3+j)=some u):=by
 obtain ⟨A',c',he,_,_,hg⟩:=hv.slice
 injection he with e1 e2 e3
 subst e1;obtain ⟨b,o,cs,h1,h2,h3,h4⟩:=hg k l[k].dat (by simp [hk]);obtain rfl:=aeW h4;exact Ap
theorem Vn {l:List dx}:∀ (f n:Nat) (k:Int),n<=l.length->n<=(qR l f n k).1∧(qR l f n k).1<=l.length
 | 0,n,k,h=>⟨aV _,h⟩
 | f+1,n,k,h=>by
  rw [qR];split
  ·split
   ·have:=Vn (l:=l) f (n+1) (if iI l n=5 then 1 else k) V;omega
   exact ⟨aV _,h⟩
  exact ⟨aV _,h⟩
theorem Uq {l:List dx}:∀ (f n:Nat),n<=l.length->n<=pV l f n∧pV l f n<=l.length
 | 0,n,h=>⟨aV _,h⟩
 | f+1,n,h=>by
  rw [pV];split
  ·have:=Uq (l:=l) f (n+1) V;omega
  exact ⟨aV _,h⟩
theorem JE {l:List dx} (h:0 < l.length):1<=(jX l).1∧(jX l).1<=l.length:=by
 unfold jX
 split
 ·rename_i hc
  have hok:okW l 0=true:=by simp only [okW,gG];omega
  rw [kZ,Vo V h,aM hok];have:=Vn (l:=l) (l.length - 1) (0+1) (if iI l 0=5 then 1 else 2) V
  omega
 split
 ·rename_i hc
  rw [Ur V ⟨h,hc⟩];have:=Uq (l:=l) (l.length - 1) (0+1) V
  omega
 repeat' split
 all_goals (dsimp only;omega)
def lY:Nat->List dx->List dN
 | 0,_=>[]
 | f+1,l=>if h:0 < l.length then ⟨(jX l).2,(l[0]).from_,(l[(jX l).1 - 1]'(by have:=JE h;omega)).to⟩ :: lY f (l.drop (jX l).1) else []
def gZ (l:List dx):List dN:=lY l.length l
theorem Ch:∀ (f:Nat) (l:List dx),(lY f l).length<=f
 | 0,_=>by simp [lY]
 | f+1,l=>by
  rw [lY];split
  ·rw [jB];have:=Ch f (l.drop (jX l).1);omega
  simp
def vF (x:dN):AP:=fun args _=>args=[.agg #[vi x.kind,vi x.from_,vi x.to]]
theorem UK {A:List dN} {k:Nat} {args:List aj} {g:GH} (h:pY (A.map vF) k args g):∃ (hk:k < A.length),args=[.agg #[vi A[k].kind,vi A[k].from_,vi A[k].to]]:=by
 exact OC
abbrev bC (b:Nat) (v:aj):Nat × Obj:=(b,.cells #[v] 117 (0,0))
theorem Nk {p:Prop} (h:p:=by
 intro av a w G1 _ ah hc hG HT hv;have H:=HT;clear ah;have Hb:=H.full;have H:=Hb;clear hc;refine kH H (Ro Cn 0 O ?_);exact aI):p:=h
set_option maxHeartbeats 1000000 in
theorem aff {G:GH} {bx:Nat} {l:List dx} {v:aj} (hv:ay G (.sl 3 (l.map dx.dat)) v) :
  uD prog G [bC bx v] (.func (.func 68) #[] #[(aD bx 0)]) ((gZ l).map vF):=by
 intro J Jx fv G1 L w0 hfv hGi rM hJx hJ hO hcb;refine rE (caps:=[(aD bx 0)]) Qu ?_;obtain ⟨A,c,rfl,hc1,hc2,-⟩:=hv.slice;have hml:maxLen=9223372036854775807:=rfl;rw [bG] at *;refine lS (N:=31) (T:=[(0,_),(1,_)]) func68 O ntmps68 O O hO ?_;intro a H;refine uP ?_;skip;refine dz (ι:=List dx × Option Addr × Nat × Nat × Nat × OL × GH) (Tc:=[(0,_),(1,_)]) (Lc:=[]) (fun gh=>[]) (fun gh=>[bC bx (.slice gh.2.1 gh.1.length gh.2.2.1)]++gh.2.2.2.2.2.1) (fun gh=>gh.2.2.2.2.2.2) (fun gh=>gh.1.length<=gh.2.2.2.1∧ay gh.2.2.2.2.2.2 (.sl 3 (gh.1.map dx.dat)) (.slice gh.2.1 gh.1.length gh.2.2.1)∧(∀ b o,G1 b=some o->gh.2.2.2.2.2.2 b=some o)∧Now ((gZ l).map vF) vF J (gZ l).length gh.2.2.2.2.1 (lY gh.2.2.2.1 gh.1) gh.2.2.2.2.2.2 gh.2.2.2.2.2.1) (fun gh=>gh.1.length) ((l,A,c,l.length,0,L,G1)) (by exact H.sub ⟨O,O,aH⟩) ?_ ?_
 ·exact ⟨aV _,hv.mono hGi,fun _ _ h=>h,⟨hJ,fun i a h=>by rw [eP,oD];rw [show lY l.length l=gZ l from rfl] at h;rw [h];rfl,by show 0+(gZ l).length=_;omega⟩⟩
 clear H;rintro ⟨r,B,c2,f,j1,Lt,g⟩ a w hI H;dsimp only at hI H;obtain ⟨hf,cB,hgm,iQ⟩:=hI;dsimp only [lca,bR] at H;refine kP H (SQ fun _ K1=>SR fun _ K2=>Ro Cn 0 O (Rl ji O (Rc O (Kz K2 (Cd O ?_ ?_))))) <;> clear H K2
 ·intro h7 a H
  try have p7:=dT h7
  have hr0:0 < r.length:=by omega
  obtain ⟨f',rfl⟩:∃ f',f=f'+1:=⟨f - 1,V⟩;rw [lY,dif_pos hr0] at iQ;have hbd:=JE hr0;obtain ⟨b,o,rfl,-⟩:=Dz cB hr0;obtain ⟨_,_,he0,hc3,hc4,-⟩:=cB.slice
  injection he0 with _ _ he1
  subst he1;rw [bG] at hc3;refine kP H (Kc K1 (SB (SR fun _ K2=>Ro Cn 0 O ?_)));clear H K1;intro a H;refine s_call Y2 H wn O (acI _ _ H.ro r _ cB hr0) O ?_;clear H;rintro v10 Lr a w rfl yU H;obtain ⟨nn,hnn⟩:∃ nn,nn=(jX r).1:=⟨_,O⟩;have cB:=cB.mono yU;rw [<- hnn] at H hbd
  have hl1:nn - 1 < r.length:=by omega
  have vk:Now ((gZ l).map vF) vF J (gZ l).length j1 (⟨(jX r).2,(r[0]).from_,(r[nn - 1]).to⟩ :: lY f' (r.drop nn)) Lr Lt:=by
   subst hnn;exact ⟨rM _ _ _ _ yU iQ.now,iQ.rem,iQ.len⟩
  refine kH H (Rm O ?_);clear H;intro a H;(iterate 2 refine fG H wn O O O ?_;clear H;intro a H);refine kH H (Ra O (au K2 O (SQ fun _ K1=>SQ fun _ K3=>?_)));clear H K2;intro a H;refine dI fF [[],[],[],[2],[2,3],[2,3,4],[],[],[7],[6,7,8],ra 6 4,ra 6 5,ra 1 11,ra 0 13,ra 0 14] [13,14] Z [fv,vi (jX r).2,.slice (some ⟨b,o,none⟩) r.length c2,(aD b (o+0*3)),(aD b (o+0*3+1)),vi (r[0]).from_,.slice (some ⟨b,o,none⟩) r.length c2,vi nn,vi ((nn:Int) - 1),(aD b (o+(nn - 1)*3)),(aD b (o+(nn - 1)*3+2)),vi (r[nn - 1]).to,.agg #[vi (jX r).2,vi (r[0]).from_,vi (r[nn - 1]).to]] H (aF ?_ ?_ ?_ ?_ (aF ?_ ?_ ?_ ?_ (aF ?_ ?_ ?_ ?_ (gN ?_ (gN (gB O) (gN (gB O) fB)))))) ?_
  ·exact aO
  ·exact aO
  ·exact Nk
  ·intro av a w G1 _ ah hc hG HT hv;have H:=HT;clear ah;have H:=H.ak (hv 2 15 (hc 2 Y) O) O;have Hb:=H.full;have H:=Hb;clear hc;refine bO ji gF 0 H wn O O O hr0 O ?_;exact aI
  ·intro av a w G1 _ ah hc hG HT hv;have H:=HT;clear ah;have H:=H.ak (hv 3 16 (hc 3 Y) O) O;have Hb:=H.full;have H:=Hb;clear hc;refine kH H (Rf Zx O ?_);exact aI
  ·intro av a w G1 _ ah hc hG HT hv;have H:=HT;clear ah;have H:=H.ak (hv 4 17 (hc 4 Y) O) O;have Hb:=H.full;have H:=Hb;clear hc;refine kH H (Rg aG O (aK hG (lu cB hr0 1 _ O)) ?_);exact aI
  ·exact Nk
  ·exact aO
  ·intro av a w G1 _ ah hc hG HT hv;have H:=HT;clear ah;have H:=H.ak (hv 7 20 (hc 7 Y) O) O;have Hb:=H.full;have H:=Hb;clear hc;refine kH H (Rs O ?_);exact aI
  ·intro av a w G1 _ ah hc hG HT hv;have H:=HT;clear ah;have H:=H.ak (hv 6 19 (hc 6 Y) O) O;have H:=H.ak (hv 8 21 (hc 8 Y) O) O;have Hb:=H.full;have H:=Hb;clear hc;refine bO ji gF (nn - 1) H wn O O V hl1 O ?_;exact aI
  ·intro av a w G1 _ ah hc hG HT hv;have H:=HT;clear ah;have H:=H.ak (hv 9 22 (hc 9 Y) O) O;have Hb:=H.full;have H:=Hb;clear hc;refine kH H (Rf Zy O ?_);exact aI
  ·intro av a w G1 _ ah hc hG HT hv;have H:=HT;clear ah;have H:=H.ak (hv 10 23 (hc 10 Y) O) O;have Hb:=H.full;have H:=Hb;clear hc;refine kH H (Rg aG O (aK hG (lu cB hl1 2 _ O)) ?_);exact aI
  ·intro av a w G1 _ ah hc hG HT hv;have H:=HT;clear ah;have H:=H.ak (hv 1 14 (hc 1 Y) O) O;have H:=H.ak (hv 5 18 (hc 5 Y) O) O;have H:=H.ak (hv 11 24 (hc 11 Y) O) O;have Hb:=H.full;have H:=Hb;clear hc;refine jQ aeA [_,_,_] H wn O O O O ?_;exact aI
  clear H;intro a w G Ea H hv;have H:=H.ak (hv 0 13 O O) O;have H:=H.ak (hv 12 25 O O) O;clear hv;refine zG (Li:=[_]) (L:=Lt) H wn O O (hcb j1 _ _ _ _ ⟨_,vk.head,O⟩ (fun b o h=>Ea b o (yU b o (hgm b o h))) (rM _ _ _ _ Ea vk.now) (Hp.owns (Li:=[_]) H.hp)) O ?_;clear H;rintro v26 Vu LQ a w ⟨b26,rfl,hb1,hb2⟩ Rw H;have abR:=(cB.mono Ea).mono Rw;refine kH H (Rn O ?_);clear H;intro a H;refine aB ⟨O,?_⟩;refine K3 _ _ ?_;clear K3;refine rC H O ?_ ?_
  ·intro h27
   try have p27:=dT h27
   refine bN ?_;refine (leave0 H results68 ?_).1;exact H.hp.zy (L':=LQ) (by repeat (first|exact List.Sublist.refl _|apply List.Sublist.cons)) (.inr (hb2 (by simpa using h27)))
  intro h27
  try have p27:=dF h27
  refine kP H (Kc K1 (SC (Ro Cn 0 O (Rm O ?_))));clear H K1;intro a H;refine adX ji gF nn H wn O O O V O ?_;clear H;intro a H;have hlen:r.length - nn=(r.drop nn).length:=(List.length_drop ..).symm;rw [hlen] at H;have R5:=abR.part nn r.length V (by rw [bG];exact aV _);rw [gX (by rw [List.length_drop,bG];exact aV _),<- List.map_drop,hlen] at R5;have abl:=vk.step (hb1 (by simpa using h27));refine eZ Cn 0 (vs:=[_]) H wn O ?_;clear H;intro w H;refine aB ?_;refine JA ((r.drop nn,_,c2 - nn,f',j1+1,LQ,Vu)) (by exact H.sub ⟨O,O,aH⟩) ?_ ?_
  ·(try dsimp only);exact ⟨by rw [<- hlen];omega,R5,fun b o h=>Rw b o (Ea b o (yU b o (hgm b o h))),abl⟩
  dsimp only;rw [<- hlen];omega
 intro h7 a H
 try have p7:=dF h7
 have hnl:lY f r=[]:=by
  match f with
  | 0=>rfl
  | f+1=>rw [lY,dif_neg V]
 rw [hnl] at iQ;refine bQ ?_;refine (leave0 H results68 ?_).2;refine H.hp.zy (L':=Lt) (by repeat (first|exact List.Sublist.refl _|apply List.Sublist.cons)) (.inl ?_);have h:=iQ.len
 simp only [List.length_nil,qm] at h
 rw [bG,<- h];exact iQ.now
theorem sj:prog.underlying 97=some (.slice 103):=by kernel_rfl
theorem mh:Ty prog 103 3 24 [.int .i64 0,.int .i64 0,.int .i64 0] true:=⟨Z,Z⟩
theorem KM:Ty prog 97 1 24 [.slice none 0 0] false:=⟨Z,Z⟩
theorem Y1:bD 67:=bH func67 O
theorem UJ (G:GH):∀ (B A:List dN),bU G 3 (A.map dN.dat) (A.map dN.cells).flatten->bU G 3 ((A++B).map dN.dat) ((A++B).map dN.cells).flatten
 | [],A,h=>by rw [kr];exact h
 | x :: B,A,h=>by
  have h2:=h.snoc (aeX G x) O;have h3:=UJ G B (A++[x]) (by simpa using h2)
  simpa using h3
theorem aeY (G:GH) (A:List dN):bU G 3 (A.map dN.dat) (A.map dN.cells).flatten:=UJ G A [] bU.nil
theorem V5 {G:GH} {w0:World} {bx:Nat} {v:aj} {A:List dN} (hO:jc G [bC bx v] w0) (hA:A.length<=4294967296) (hit:uD prog G [bC bx v] (.func (.func 68) #[] #[(aD bx 0)]) (A.map vF)) :
  Calls prog 67 #[.slice none 0 0,.func (.func 68) #[] #[(aD bx 0)]] w0 (jd w0 G [bC bx v] fun u G' L'=>L'=[]∧ay G' (.sl 3 (A.map dN.dat)) u):=by
 have hml:maxLen=9223372036854775807:=rfl;refine lS (N:=13) (T:=[(0,_),(1,_)]) func67 O ntmps67 O O hO ?_;intro a H;refine iV (fun _ K1=>?_);refine lV (cs:=[_]) H wn O O O ?_;clear H;intro b2 a w hb2 H;refine kH H (au K1 O (SQ fun _ K2=>SR fun _ K3=>Rm O (Kz K3 (SB ?_))));clear H K1 K3;intro a H;skip;refine Xl (B:=[(_,_)]) (ι:=aj × OL) (κ:=Empty) (Lc:=[]) (fun (k:Nat) (gh:aj × OL)=>[(b2,.cells #[gh.1] 97 (0,0))]) (fun (k:Nat) (gh:aj × OL)=>gh.2) (fun (k:Nat) (gh:aj × OL) (g:GH)=>aZ 103 3 gh.1 k ((A.take k).map dN.cells).flatten gh.2) (fun x=>x.elim) (fun x=>x.elim) (fun x=>x.elim) (fun x=>x.elim) ((.slice none 0 0,[])) (by exact H.dB (Pl:=[_,_]) (bS:=[_,_]) [1,0] Y O) O Qu (hit) (fun _ _ h=>h) O (fun k args g h=>by obtain ⟨_,rfl⟩:=UK h;rfl) (fun _ _ _ _ _ h=>h) (fun x=>x.elim) (aZ.nil) ?_ ?_ ?_
 ·clear H;intro l2 wP sZ bk k args gh G2 w2 F2 B2 a hk2 hm2 hI aaD abh ahr H;obtain ⟨u,Lo⟩:=gh;dsimp only at hI H;obtain ⟨hk,rfl⟩:=UK hk2;dsimp only [ru,List.cons_append,List.nil_append] at H;have hrw:=hI;refine qw ?_;refine jv mh H wn O ?_;clear H;intro b5 a w hb5 H;refine eZ mh 0 (vs:=[_,_,_]) H wn O ?_;clear H;intro w H;refine aB ?_;refine aaD _ _ _ _ _ _ (by exact H.dB (Pl:=[_,_,_]) (bS:=[_,_,_]) [1,0,2] Y O) ?_;clear H;intro w H;refine kP H (SB (SC (Ro KM 2 O ?_)));clear H;intro a H;refine dL mh (cs:=[_,_,_]) H wn O O (H.hp.dw 1 O O) O ?_;clear H;intro a H;refine eU sj mh [_,_,_] [_,_,_] H wn O O O O O (by intro i q h;match i,h with|0,h=>exact h|n+1,h=>simp at h) O O ?_;clear H;intro b10 a w Q0 H;have H:=St.un (A:=[_,_,_,_]) H;refine dV (Li:=[_,_,_,_]++bk) (Lo:=Lo) (news:=[vi A[k].kind,vi A[k].from_,vi A[k].to]) sj mh O O H wn O O hrw O (H.hp.dw 0 O O) O V V O ?_;clear H;intro v11 VH a w RH H;have H:=H.assoc;dsimp only [lca,bR] at H;obtain ⟨afA,afD,e11,-,-⟩:=RH.shape;subst e11;refine eZ KM 3 (vs:=[_]) H wn O ?_;clear H;intro w H;refine aB ?_;refine abh ((.slice afA (k+1) afD,VH)) _ _ _ _ _ (by exact H.dB (Pl:=[_,_,_,_]) (bS:=[_,_]) [1,3] Y O) ?_;rw [kg hk,ku,List.flatten_append];exact RH
 ·clear H;intro Dk2 gh Gd2 a w hm2 hI H;obtain ⟨u,Lo⟩:=gh;dsimp only at hI H;dsimp only [lca,bR] at H;have hrw:=hI;rw [bG,gX (aV _)] at hrw;refine K2 _ _ ?_;clear K2;refine kP H (SR fun _ K1=>Ro KM 1 O (au K1 O ?_));clear H K1;intro a H;refine bN ?_;obtain ⟨Gr,hmr,hrep,H⟩:=St.kU (Li:=[_,_]) (Lo:=Lo) H hrw (rows:=A.map dN.dat) (by simp) (aeY _ _);refine (Sq H 0 O ?_).1;clear H;intro a w H;dsimp only [List.eraseIdx_cons_succ,List.eraseIdx_cons_zero] at H;refine lv H results67 O ?_;exact H.hp.zy (L':=[]) (List.nil_sublist _) ⟨O,hrep⟩
 intro Dk x;exact x.elim
theorem XJ {G:GH} {w0:World} {bx:Nat} {v:aj} {A:List dN} (hO:jc G [bC bx v] w0) (hA:A.length<=4294967296) (hit:uD prog G [bC bx v] (.func (.func 68) #[] #[(aD bx 0)]) (A.map vF)) :
  Calls prog 50 #[.func (.func 68) #[] #[(aD bx 0)]] w0 (jd w0 G [bC bx v] fun u G' L'=>L'=[]∧ay G' (.sl 3 (A.map dN.dat)) u):=by
 refine lS (N:=5) (T:=[(0,_)]) func50 O ntmps50 O O hO ?_;intro a H;refine kP H (SR fun _ K1=>au K1 O (SR fun _ K2=>Rm O ?_));clear H K1;intro a H;refine jR Y1 (Li:=[]) (L:=[_]) H wn O (V5 (Hp.owns (Li:=[]) H.hp) hA hit) O ?_;clear H;rintro v4 G4 L4 a w ⟨rfl,hrep⟩ hm4 H;exact kH H (au K2 O (LR results50 O fun H=>H.hp.kY ⟨O,hrep⟩))
theorem afg {G:GH} {w0:World} (hO:jc G [] w0) (l:List dx) (v:aj) (hv:ay G (.sl 3 (l.map dx.dat)) v) :
  Calls prog 51 #[v] w0 (jd w0 G [] fun u G' L'=>G=G'∧∃ bx,u=.func (.func 68) #[] #[(aD bx 0)]∧L'=[bC bx v]):=by
 obtain ⟨A,c,rfl,hc1,hc2,-⟩:=hv.slice;refine lS (N:=4) (T:=[(0,_)]) func51 O ntmps51 O O hO ?_;intro a H;refine iV (fun _ K1=>?_);refine lV (cs:=[_]) H wn O O O ?_;clear H;intro b1 a w hb1 H;refine kH H (au K1 O (SR fun _ K2=>?_));clear H K1;intro a H;refine Cc H wn O O ?_;clear H;intro a H;exact kH H (au K2 O (LR results51 O fun H=>H.hp.kY ⟨O,b1,O,O⟩))
section
section
variable {N:Nat} {D:List Deferred} {w0:World} {F:Nat->Prop} {G0 G:GH} {L:OL} {T T':List (Nat × aj)}
variable {r:Option Nat} {P:Program} {Q:Exit->Act->World->Prop} {l:List Oper} {a a':Act} {w w':World} {ε:Type}
def oz (l:List Oper) (pr:ε->Nat->aj->Prop) (T:List (Nat × aj)) (S:Nat->Bool) (E:ε) (T':List (Nat × aj)):Prop :=
 (∀ t v,lk T t=some v->lk T' t=some v)∧∀ i d,S i=true->cZ l i=some d->∃ v,lk T' d=some v∧pr E i v
theorem oz.put {pr:ε->Nat->aj->Prop} {S:Nat->Bool} {E E':ε} {i d:Nat} {v:aj} (h:oz l pr T S E T') (hok:Yb l T=true) (hi:cZ l i=some d) (hv:pr E' i v) (hE:∀ j u,j≠i->pr E j u->pr E' j u):oz l pr T (dM S i) E' ((d,v) :: T'):=by
 have hil:=yw hi
 have hok1:=fM.1 hok i (nQ.2 hil)
 rw [kC,hi] at hok1
 simp only [gq,Option.isNone_iff_eq_none,fM,nQ] at hok1
 refine ⟨fun t u ht=>?_,fun j e hj he=>?_⟩
 ·rw [mM (fun e=>by subst e;rw [hok1.1] at ht;cases ht)];exact h.1 t u ht
 ·by_cases hji:j=i
  ·subst hji;rw [hi] at he;cases he;exact ⟨v,nW _ _ _,hv⟩
  ·have hSj:S j=true:=by unfold dM at hj;rwa [aL hji] at hj
   obtain ⟨u,hu1,hu2⟩:=h.2 j e hSj he
   have hne:d≠e:=by
    intro e';subst e'
    have h2:=hok1.2 j (yw he)
    have hb:Nat.beq i j=false:=xU (fun h=>hji h.symm)
    rw [hb,he] at h2
    simp at h2
   exact ⟨u,by rw [mM hne];exact hu1,hE j u hji hu2⟩
theorem oz.unit {pr:ε->Nat->aj->Prop} {S:Nat->Bool} {E:ε} {i:Nat} (h:oz l pr T S E T') (hi:cZ l i=none):oz l pr T (dM S i) E T' :=
 ⟨h.1,fun j e hj he=>h.2 j e (by
  unfold dM at hj
  by_cases hji:j=i
  ·subst hji;rw [hi] at he;cases he
  ·rwa [aL hji] at hj) he⟩
theorem Xd {id:Nat} (hm:P.follows .mixedOrders=true) (aW:List (List Nat)) (hk:rG l aW=true) (pr:ε->Nat->aj->Prop) (Lf:(Nat->Bool)->ε->OL) (E0:ε) (H:St N D w0 F G0 G (Lf (fun _=>false) E0) T a w)
  (hstep:allI (fun i o=>∀ S E T' a w,S i=false->(∀ j∈aW.getD i [],S j=true)->(∀ j,j < l.length->i∈aW.getD j []->S j=false)->St N D w0 F G0 G (Lf S E) T' a w->oz l pr T S E T' ->
   WL r P l.toArray (fun e a' w'=>e=.normal∧∃ E' T'',St N D w0 F G0 G (Lf (dM S i) E') T'' a' w'∧oz l pr T (dM S i) E' T'') [o] a w) 0 l)
  (hend:∀ S E T' a w,(∀ i,i < l.length->S i=true)->St N D w0 F G0 G (Lf S E) T' a w->oz l pr T S E T'->Q .normal a w):WP r P (.region id l.toArray true) Q a w:=by
 refine Dx hm aW hk (fun S a w=>∃ E T',St N D w0 F G0 G (Lf S E) T' a w∧oz l pr T S E T') ⟨E0,T,H.move H.hp.drew,fun _ _ h=>h,fun _ _ h=>by cases h⟩ ?_ ?_
 ·rintro i o S a w ho ⟨E,T',HS,hV⟩ ah kM hdesc
  have h:=vM hstep i o ho
  rw [eP] at h
  exact h S E T' a w ah kM hdesc HS hV
 ·rintro S a w hall ⟨E,T',HS,hV⟩
  exact hend S E T' a w hall HS hV
theorem oz.add {pr:ε->Nat->aj->Prop} {S:Nat->Bool} {E:ε} (h:oz l pr T S E T') {t:Nat} {u:aj} (hu:lk T' t=some u):oz l pr T S E ((t,u) :: T'):=by
 have e:∀ s v,lk T' s=some v->lk ((t,u) :: T') s=some v:=fun s v hs=>by
  by_cases hst:t=s
  ·subst hst;rw [hu] at hs;cases hs;exact nW _ _ _
  ·rw [mM hst];exact hs
 exact ⟨fun s v hs=>e s v (h.1 s v hs),fun i d hi hd=>by
  obtain ⟨v,h1,h2⟩:=h.2 i d hi hd
  exact ⟨v,e d v h1,h2⟩⟩
theorem St.nO {a:Act} {w:World} (H:St N D w0 F G0 G L T a w) {t:Nat} {u:aj} (h:lk T t=some u):St N D w0 F G0 G L ((t,u) :: T) a w:=H.dD (H.get t u h)
end
end
section
section
variable {N:Nat} {D:List Deferred} {w0:World} {F:Nat->Prop} {G0 G G1 G2:GH} {L L1:OL} {T Xs:List (Nat × aj)}
variable {r:Option Nat} {P:Program} {Q:Exit->Act->World->Prop} {l:List Oper} {a a':Act} {w w':World}
theorem Pv {id:Nat} (hm:P.follows .mixedOrders=true) (aW:List (List Nat)) (B:List Nat) (hk:rG l aW=true) (hB:rX l aW B=true) (X:(Nat->Bool)->Act->World->Prop) (h0:X (fun _=>false) a w.drew)
  (hstep:∀ i o S a w,l[i]?=some o->B.contains i=false->S i=false->(∀ j∈aW.getD i [],S j=true)->(∀ j,j < l.length->i∈aW.getD j []->S j=false)->X S a w->WL r P l.toArray (fun e a' w'=>e=.normal∧X (dM S i) a' w') [o] a w)
  (hend:∀ S a w,(∀ i,i < l.length->B.contains i=false->S i=true)->(∀ i,B.contains i=true->S i=false)->X S a w->WL r P l.toArray (fun e a w=>e=.normal∧Q .normal a w) (lC l B) a w):WP r P (.region id l.toArray true) Q a w:=by
 have hB1:∀ p b,B[p]?=some b->b < l.length∧∀ i,i < l.length->(B.contains i=false∨(B.take p).contains i=true)->i∈aW.getD b []:=by
  intro p b hp
  simp only [rX,gq] at hB
  have h1:=fM.1 hB.1 p (nQ.2 (fV.1 hp).1)
  rw [hp] at h1
  simp only [gq,fM,nQ] at h1
  refine ⟨Eq.mp Nat.blt_eq h1.1,fun i hi hor=>?_⟩
  have h2:=h1.2 i hi
  rcases hor with h3|h3
  ·have h4:i∉B:=by simpa using h3
   simpa [h4] using h2
  ·have h4:i∈B.take p:=by simpa using h3
   simpa [h4] using h2
 have hB2:∀ i,i < l.length->B.contains i=false->∀ j∈aW.getD i [],B.contains j=false:=by
  intro i hi hb j hj
  simp only [rX,gq] at hB
  have h1:=fM.1 hB.2 i (nQ.2 hi)
  rw [hb] at h1
  simp only [Bool.false_or,fM] at h1
  simpa using h1 j hj
 refine Dx hm aW hk (fun S a w=>((∀ i,B.contains i=true->S i=false)∧X S a w) ∨
   ∃ p,(∀ i,i < l.length->B.contains i=false->S i=true)∧(∀ i,(B.take p).contains i=true->S i=true)∧(∀ q b,B[q]?=some b->p<=q->S b=false)∧WL r P l.toArray (fun e a w=>e=.normal∧Q .normal a w) (lC l (B.drop p)) a w)
  (.inl ⟨fun _ _=>rfl,h0⟩) ?_ ?_
 ·intro i o S a w ho hX ah kM hdesc
  have hil:i < l.length:=(fV.1 ho).1
  by_cases hbi:B.contains i=true
  ·-- an operation of the tail: all that stands ahead of it is done
   obtain ⟨p0,hp0⟩:=List.getElem?_of_mem (by simpa using hbi:i∈B)
   have hall:∀ j,j < l.length->B.contains j=false->S j=true:=fun j hj hb=>kM j ((hB1 p0 i hp0).2 j hj (.inl hb))
   have Jj:∃ p,(∀ i,(B.take p).contains i=true->S i=true)∧(∀ q b,B[q]?=some b->p<=q->S b=false)∧WL r P l.toArray (fun e a w=>e=.normal∧Q .normal a w) (lC l (B.drop p)) a w:=by
    rcases hX with ⟨h1,hD⟩|⟨p,_,h2,h3,h4⟩
    ·exact ⟨0,by simp,fun q b hq _=>h1 b (by simpa using iU hq),hend S a w hall h1 hD⟩
    ·exact ⟨p,h2,h3,h4⟩
   obtain ⟨p,h2,h3,h4⟩:=Jj
   -- i is the next one
   have hpp:p<=p0:=by
    rcases Nat.lt_or_ge p0 p with hlt|hge
    ·have:(B.take p).contains i=true:=by
      simp only [pq]
      exact iU (i:=p0) (by rw [oZ,aM hlt];exact hp0)
     rw [h2 i this] at ah;cases ah
    ·exact hge
   have wG:p < B.length:=by have:=(fV.1 hp0).1;omega
   have hbp:B[p]?=some B[p]:=gU wG
   have heq:B[p]=i:=by
    rcases Nat.lt_or_ge p p0 with hlt|hge
    ·exfalso
     have hin:B[p]∈aW.getD i []:=(hB1 p0 i hp0).2 _ (hB1 p _ hbp).1 (.inr (by
      simp only [pq]
      exact iU (i:=p) (by rw [oZ,aM hlt];exact hbp)))
     have:=kM _ hin
     rw [h3 p _ hbp (aV _)] at this;cases this
    ·have:p=p0:=by omega
     subst this
     rw [hbp] at hp0;simpa using hp0
   have hdrop:B.drop p=i :: B.drop (p+1):=by rw [List.drop_eq_getElem_cons wG,heq]
   have hops:lC l (B.drop p)=o :: lC l (B.drop (p+1)):=by rw [hdrop];simp [lC,ho]
   rw [hops] at h4
   refine Vl (fun a' w' h5=>.inr ⟨p+1,fun j hj hb=>?_,fun j hj=>?_,fun q b hq hpq=>?_,h5⟩) h4
   ·unfold dM;split
    ·rfl
    ·exact hall j hj hb
   ·unfold dM;split
    ·rfl
    ·rename_i hne
     refine h2 j ?_
     simp only [pq] at hj |-
     rw [kg wG,sI] at hj
     rcases hj with hj|hj
     ·exact hj
     ·simp only [sJ] at hj;exact absurd (hj.trans heq) hne
   ·unfold dM
    rw [aL ?_]
    ·exact h3 q b hq V
    ·rintro rfl
     -- i would stand twice in B: it would come ahead of itself
     have h6:=(hB1 q b hq).2 b (hB1 q b hq).1 (.inr (by
      simp only [pq]
      exact iU (i:=p) (by rw [oZ,aM V];rw [hbp,heq])))
     rw [kM _ h6] at ah;cases ah
  ·have wu:B.contains i=false:=by cases h:B.contains i with|false=>rfl|true=>exact absurd h hbi
   rcases hX with ⟨h1,hX⟩|⟨p,h0,_,_,_⟩
   ·refine oq (fun e a' w' ⟨he,hD⟩=>⟨he,.inl ⟨fun j hj=>?_,hD⟩⟩) (hstep i o S a w ho wu ah kM hdesc hX)
    unfold dM
    rw [aL (by rintro rfl;rw [wu] at hj;cases hj)]
    exact h1 j hj
   ·rw [h0 i hil wu] at ah;cases ah
 ·intro S a w hall hX
  rcases hX with ⟨h1,hD⟩|⟨p,_,_,h3,h4⟩
  ·have hnil:B=[]:=by
    cases B with
    | nil=>rfl
    | cons b B=>have h5:=h1 b (by simp);rw [hall b (hB1 0 b O).1] at h5;cases h5
   subst hnil
   exact (hend S a w (fun j hj _=>hall j hj) h1 hD).2
  ·have hnil:B.drop p=[]:=by
    cases hd:B.drop p with
    | nil=>rfl
    | cons b B' =>
     have hb:B[p]?=some b:=by
      have:=ko (fun x:List Nat=>x[0]?) hd
      simpa using this
     have h5:=h3 p b hb (aV _)
     rw [hall b (hB1 p b hb).1] at h5;cases h5
   rw [hnil] at h4
   exact h4.2
theorem Xe {id:Nat} (hm:P.follows .mixedOrders=true) (aW:List (List Nat)) (B:List Nat) (hk:rG l aW=true) (hB:rX l aW B=true) (m:Nat) (Jd:B.contains m=false) (ob:Obj) (pr:Nat->Nat->aj->GH->Prop)
  (abm:∀ b b' i v G,i≠m->pr b i v G->pr b' i v G) (H:St N D w0 F G0 G L T a w)
  (hstep:allI (fun i o=>∀ b L' S a w G1,B.contains i=false->Nat.beq i m=false->S i=false->(∀ j∈aW.getD i [],S j=true)->(∀ k o,G k=some o->G1 k=some o)->St N D w0 F G0 G1 L' T a w->(∀ i d,S i=true->cZ l i=some d->∃ v,a.tmps[d]?=some v∧pr b i v G1) ->
   WL r P l.toArray (fun e a' w'=>e=.normal∧DX N D w0 F G0 G L' T l (pr b) (dM S i) a' w') [o] a w) 0 l)
  (hmid:∀ o S a w G1,l[m]?=some o->S m=false->(∀ j∈aW.getD m [],S j=true)->(∀ k o,G k=some o->G1 k=some o)->St N D w0 F G0 G1 L T a w->(∀ b i d,i≠m->S i=true->cZ l i=some d->∃ v,a.tmps[d]?=some v∧pr b i v G1) ->
   WL r P l.toArray (fun e a' w'=>e=.normal∧∃ b,DX N D w0 F G0 G ((b,ob) :: L) T l (pr b) (dM S m) a' w') [o] a w)
  (hend:∀ b a w G1,(∀ k o,G k=some o->G1 k=some o)->St N D w0 F G0 G1 ((b,ob) :: L) T a w->(∀ i d,B.contains i=false->cZ l i=some d->∃ v,a.tmps[d]?=some v∧pr b i v G1)->WL r P l.toArray (fun e a w=>e=.normal∧Q .normal a w) (lC l B) a w)
  (hml:Nat.blt m l.length=true):WP r P (.region id l.toArray true) Q a w:=by
 refine Pv hm aW B hk hB (fun S a w=>∃ b L',(S m=false->L'=L)∧(S m=true->L'=(b,ob) :: L)∧DX N D w0 F G0 G L' T l (pr b) S a w)
  ⟨0,L,fun _=>rfl,fun h=>absurd (show false=true from h) Y,G,fun _ _ h=>h,H.move H.hp.drew,fun _ _ h=>absurd (show false=true from h) Y⟩ ?_ ?_
 ·rintro i o S a w ho hb ah kM hdesc ⟨b,L',h1,h2,G1,hG,HS,hv⟩
  by_cases him:i=m
  ·subst him
   have e:=h1 ah;subst e
   have h:=hmid o S a w G1 ho ah kM hG HS fun b' j d hj hSj hd=>by
    obtain ⟨v,hv1,hv2⟩:=hv j d hSj hd
    exact ⟨v,hv1,abm b b' j v _ hj hv2⟩
   have e1:dM S i i=true:=aM O
   exact oq (fun e a' w' ⟨he,b',hD⟩=>⟨he,b',_,fun h=>absurd (e1.symm.trans h) Y,fun _=>rfl,hD⟩) h
  ·have h:=vM hstep i o ho
   rw [eP] at h
   have e:dM S i m=S m:=aL (fun h=>him h.symm)
   exact oq (fun e' a' w' ⟨he,hD⟩=>⟨he,b,L',fun h=>h1 (e ▸ h),fun h=>h2 (e ▸ h),hD⟩) (h b L' S a w G1 hb (xU him) ah kM hG HS hv)
 ·rintro S a w hall hnB ⟨b,L',h1,h2,G1,hG,HS,hv⟩
  have En:S m=true:=hall m (Eq.mp Nat.blt_eq hml) Jd
  have e:=h2 En;subst e
  exact hend b a w G1 hG HS fun j d hb hd=>hv j d (hall j (yw hd) hb) hd
theorem X9 {pr:Nat->aj->GH->Prop} {S:Nat->Bool} {i d:Nat} {v:aj} (hok:kC l T i=true) (hi:cZ l i=some d) 
  (HT:St N D w0 F G0 G1 L T a w) (Hb:St N D w0 F G0 G1 L (Xs++full N a) a w) (hG:∀ k o,G k=some o->G1 k=some o) (hv:∀ j d,j≠i->S j=true->cZ l j=some d->∃ v,a.tmps[d]?=some v∧pr j v G1)
  (hp:pr i v G1) (H:St N D w0 F G0 G1 L1 ((d,v) :: (Xs++full N a)) a' w'):DX N D w0 F G0 G L1 T l pr (dM S i) a' w':=by
 have hil:i < l.length:=yw hi
 have hok1:=hok
 rw [kC,hi] at hok1
 simp only [gq,Option.isNone_iff_eq_none,fM,nQ] at hok1
 have hsame:∀ t,t≠d->a'.tmps[t]?=a.tmps[t]?:=by
  intro t ht
  by_cases hlt:t < N
  ·have h1:∃ u,lk (Xs++full N a) t=some u:=by
    rw [BR]
    cases lk Xs t with
    | some u=>exact ⟨u,O⟩
    | none=>exact ⟨_,BS a hlt⟩
   obtain ⟨u,hu⟩:=h1
   rw [Hb.get t u hu,H.get t u (by rw [mM (Ne.symm ht)];exact hu)]
  ·rw [Array.getElem?_eq_none (by rw [H.iD];omega),Array.getElem?_eq_none (by rw [Hb.iD];omega)]
 refine ⟨G1,hG,⟨H.iD,fun t u ht=>?_,H.kK,H.hp⟩,fun j e hj he=>?_⟩
 ·rw [hsame t (fun e=>by rw [e,hok1.1] at ht;cases ht)]
  exact HT.get t u ht
 ·by_cases hji:j=i
  ·subst hji
   rw [hi] at he
   simp only [jL] at he
   subst he
   exact ⟨v,H.get d v (nW _ _ _),hp⟩
  ·have hSj:S j=true:=by unfold dM at hj;rwa [aL hji] at hj
   obtain ⟨u,hu1,hu2⟩:=hv j e hji hSj he
   have hne:e≠d:=by
    intro e'
    subst e'
    have h2:=hok1.2 j (yw he)
    rw [xU (fun h=>hji h.symm),he] at h2
    simp at h2
   exact ⟨u,by rw [hsame e hne];exact hu1,hu2⟩
end
end
theorem YW:bD 63:=bH func63 O
theorem YX:bD 64:=bH func64 O
theorem YZ:bD 65:=bH func65 O
theorem Y0:bD 66:=bH func66 O
theorem aeC:ow prog 146 [(0,1),(1,1),(2,1)] [.int .i64 0,.int .i64 0,.int .i64 0]:=⟨Z,Z⟩
theorem YD:bD 49:=bH func49 O
theorem YG:bD 51:=bH func51 O
theorem YE:bD 50:=bH func50 O
structure iC (G0:GH) (s:ByteArray):Prop where
 size:s.size<=1073741824
 ok:dW s=true
 lib:xK G0 s
 len:(eD s).length=(qL s).length
def eT (s:ByteArray):List Nat:=0 :: (kJ s).map fun x=>x.2.1
theorem Wq (s:ByteArray):sO s=(eT s).map fun x:Nat=>(x:Int):=by simp [sO,eT]
theorem Dy (size:Nat):∀ (l:List (Nat × Nat)) (u f st:Nat) (m:qh),(∀ x∈mG size l u f st m,u<=x.2.1∧0 < x.2.1∧x.2.1<=u+l.length)∧((mG size l u f st m).map fun x=>x.2.1).Pairwise (· < ·)
 | [],u,f,st,m=>by
  rw [mG];split
  ·refine ⟨fun x hx=>?_,by simp⟩;rw [sJ] at hx;subst hx;exact ⟨aV _,by assumption,aV _⟩
  exact ⟨fun x hx=>(by cases hx),by simp⟩
 | y :: l,u,f,st,m=>by
  have h1:=Dy size l (u+1) u y.1 (oo m (ni qB y.2));have h2:=Dy size l (u+1) f st (oo m (ni qB y.2));rw [mG];split
  ·rename_i hc
   refine ⟨fun x hx=>?_,?_⟩
   ·rcases mq.1 hx with rfl|hx
    ·exact ⟨aV _,hc.1,Nat.le_add_right _ _⟩
    have:=h1.1 x hx;simp only [jB];omega
   rw [gV,oC];refine ⟨fun z hz=>?_,h1.2⟩;obtain ⟨x,hx,rfl⟩:=List.mem_map.1 hz;have:=h1.1 x hx;dsimp only;omega
  exact ⟨fun x hx=>by have:=h2.1 x hx;simp only [jB];omega,h2.2⟩
theorem OH {p:Prop} (h:p:=by
 rw [eT,oC];refine ⟨fun z hz=>?_,hi.2⟩;obtain ⟨x,hx,rfl⟩:=List.mem_map.1 hz;exact (hi.1 x hx).2.1):p:=h
theorem L8 {s:ByteArray} {i:Nat} (h:i+1 < (eT s).length):(eT s)[i]'V < (eT s)[i+1]∧(eT s)[i+1]<=(eD s).length:=by
 have hi:=Dy s.size (eD s) 0 0 0 ⟨0,false,false,0⟩;rw [show mG s.size (eD s) 0 0 0 ⟨0,false,false,0⟩=kJ s from rfl] at hi
 have hp:(eT s).Pairwise (· < ·):=by
  exact OH
 refine ⟨List.pairwise_iff_getElem.1 hp i (i+1) V h (Nat.lt_succ_self i),?_⟩
 have hx:(eT s)[i+1]=((kJ s)[i]'(by simp [eT] at h;omega)).2.1:=by simp [eT]
 rw [hx];have:=(hi.1 _ (dK (by simp [eT] at h;omega))).2.2
 omega
def AQ (s:ByteArray) (i:Nat):dx:=⟨nV lD ((qL s).getD ((eT s).getD i 0) 0),((eT s).getD i 0:Nat),((eT s).getD (i+1) 0:Nat)⟩
def cu (s:ByteArray):List dx:=(List.range ((eT s).length - 1)).map (AQ s)
theorem PW (G:GH):∀ (B A:List dx),bU G 3 (A.map dx.dat) (A.map dx.cells).flatten->bU G 3 ((A++B).map dx.dat) ((A++B).map dx.cells).flatten
 | [],A,h=>by rw [kr];exact h
 | x :: B,A,h=>by
  have h2:=h.snoc (XA G x) O;have h3:=PW G B (A++[x]) (by simpa using h2)
  simpa using h3
theorem XF (G:GH) (A:List dx):bU G 3 (A.map dx.dat) (A.map dx.cells).flatten:=PW G A [] bU.nil
theorem FZ {p:Prop} (h:p:=by
 exact ⟨dO _,aZ.nil,fun _ _ h=>h⟩):p:=h
theorem Mq {p:Prop} (h:p:=by
 exact yu HT Hb hG hv (wI jJ) H O):p:=h
theorem Ak {p:Prop} (h:p:=by
 exact absurd hB Y):p:=h
theorem sQ {p:Prop} (h:p:=by
 intro jJ oW av a w G1 _ _ ah hc hG HT hv;have H:=HT;clear ah;have Hb:=H.full;have H:=Hb;clear hc;refine kH H (Rm O ?_);clear H;intro a H;refine aB ⟨O,?_⟩;exact Mq):p:=h
theorem sS {p:Prop} (h:p:=by
 clear H;intro a H;refine aB ⟨O,?_⟩;exact Mq):p:=h
theorem Ns {p:Prop} (h:p:=by
 have Hb:=H.full;have H:=Hb;clear hc;refine bO bP aG j H wn O O V V O ?_;exact sS):p:=h
theorem Nv {p:Prop} (h:p:=by
 have Hb:=H.full;have H:=Hb;clear hc;refine kH H (Rg aG O (aK hG g1) ?_);exact sS):p:=h
set_option maxHeartbeats 2000000 in
theorem aed {G0:GH} (G:GH) (w0:World) (hG:Hold G w0) (h0:∀ b o,G0 b=some o->G b=some o) (s:ByteArray) (hs:iC G0 s) :
  Calls prog 49 #[.string s] w0 (bK w0 G fun u G'=>∃ x,u=.tuple #[x,vi 0]∧ay G' (.sl 3 ((cu s).map dx.dat)) x):=by
 have hml:maxLen=9223372036854775807:=rfl;have hcl:=yg s
 have hbl:(eT s).length=(kJ s).length+1:=by simp [eT]
 have hsz:=hs.size;refine eN [(0,_)] func49 O ntmps49 O O hG ?_;intro a H;refine kP H (SR fun _ K1=>Ra O (au K1 O (SR fun _ K2=>Rm O ?_)));clear H K1;intro a H;refine s_call YW H wn O (acU _ _ H.ro s hs.size hs.ok) O ?_;clear H;rintro v12 Ls a w ⟨Vp,rfl,hpt⟩ I4 H;obtain ⟨pA,pc,rfl,-,-,-⟩:=hpt.slice;rw [bG] at *;refine kH H (Rm O ?_);clear H;intro a H;(iterate 2 refine fG H wn O O O ?_;clear H;intro a H);refine kH H (Ra O (au K2 O (SQ fun _ K1=>SR fun _ K3=>Rm O (Rc O (Kz K3 (Cd O ?_ ?_)))))) <;> clear H K2 K3
 ·intro h16 a H
  exact absurd h16 Y
 intro h16 a H
 try have p16:=dF h16
 refine kP H (Kc K1 (SR fun _ K2=>Rm O ?_));clear H K1;intro a H;refine s_call YX H wn O (WY _ _ H.ro (fun b o h=>I4 b o (h0 b o h)) s hs.size hs.lib) O ?_;clear H;rintro v19 oU a w ⟨x19,rfl,hbd⟩ kV H;rw [Wq] at hbd;obtain ⟨lA,lc,rfl,-,-,-⟩:=hbd.slice;rw [bG,bG] at *;refine kH H (Rm O ?_);clear H;intro a H;(iterate 2 refine fG H wn O O O ?_;clear H;intro a H);refine kH H (Ra O (au K2 O (SQ fun _ K1=>SR fun _ K3=>Rm O (Rc O (Kz K3 (Cd O ?_ ?_)))))) <;> clear H K2 K3
 ·intro h23 a H
  exact absurd h23 Y
 intro h23 a H
 try have JI:=dF h23
 refine kI ?_;refine K1 _ _ ?_;clear K1;refine iV (fun _ K1=>?_);refine s_call YZ H wn O (aeF _ _ H.ro) O ?_;clear H;rintro v25 LC a w htb Ru H;obtain ⟨tA,tc,rfl,-,-,-⟩:=htb.slice;replace hpt:=(hpt.mono kV).mono Ru;replace hbd:=hbd.mono Ru;refine kH H (au K1 O (SR fun _ K2=>au K2 O (SQ fun _ K3=>SR fun _ K4=>au K4 O (SB ?_))));clear H K1 K2 K4;intro a H;skip;refine dz (ι:=Nat × aj × OL × GH) (Tc:=[(4,_),(6,_),(7,_)]) (Lc:=[]) (fun gh=>[(8,gh.2.1),(9,vi ((gh.1:Int)+1))]) (fun gh=>[]++gh.2.2.1) (fun gh=>gh.2.2.2) (fun gh=>gh.1<=(eT s).length - 1∧aZ 146 3 gh.2.1 gh.1 (((cu s).take gh.1).map dx.cells).flatten gh.2.2.1∧(∀ b o,LC b=some o->gh.2.2.2 b=some o)) (fun gh=>(eT s).length - gh.1) ((0,.slice none 0 0,[],LC)) (by exact H.sub ⟨O,O,O,O,O,aH⟩) ?_ ?_
 ·exact FZ
 clear H;rintro ⟨j,v,Lo,g⟩ a w hI H;dsimp only at hI H;obtain ⟨hj,hrw,hgm⟩:=hI;dsimp only [lca,bR] at H;refine kP H (SQ fun _ K1=>SR fun _ K2=>Rm O (Rm O (Rl bP O (Rc O (Kz K2 (Cd O ?_ ?_)))))) <;> clear H K2
 ·intro uU a H
  try have p29:=dT uU
  have hj1:j+1 < (eT s).length:=by omega
  obtain ⟨hb1,hb2⟩:=L8 hj1;obtain ⟨x0,hx0⟩:∃ x,x=(eT s)[j]:=⟨_,O⟩;obtain ⟨x1,hx1⟩:∃ x,x=(eT s)[j+1]:=⟨_,O⟩;rw [hs.len] at hb2;rw [<- hx0,<- hx1] at hb1;rw [<- hx1] at hb2
  have hk:x0 < (qL s).length:=by omega
  obtain ⟨z,hz⟩:∃ z,z=(qL s)[x0]:=⟨_,O⟩;obtain ⟨lb,lo,rfl,g1⟩:=mO (hbd.mono hgm) (show j < ((eT s).map fun x:Nat=>(x:Int)).length by rw [bG];omega);obtain ⟨_,_,e1,g2⟩:=mO (hbd.mono hgm) (show j+1 < ((eT s).map fun x:Nat=>(x:Int)).length by rw [bG];omega)
  injection e1 with e1;injection e1 with e2 e3;subst e2;subst e3
  obtain ⟨pb,po,rfl,g3⟩:=mO (hpt.mono hgm) hk;rw [List.getElem_map,<- hx0] at g1;rw [List.getElem_map,<- hx1] at g2;rw [<- hz] at g3
  have hcd:(cu s)[j]?=some ⟨nV lD z,x0,x1⟩:=by
   have h0:(eT s)[j]?=some x0:=by rw [hx0];exact gU V
   have h1:(eT s)[j+1]?=some x1:=by rw [hx1];exact gU hj1
   have h2:(qL s)[x0]?=some z:=by rw [hz];exact gU hk
   rw [cu,oD,List.getElem?_range V,oF,AQ]
   simp only [List.getD_eq_getElem?_getD,h0,h1,h2,Option.getD_some]
  have hjc:j < (cu s).length:=(fV.1 hcd).1;have aaH:(cu s)[j]=⟨nV lD z,x0,x1⟩:=(fV.1 hcd).2;obtain ⟨vA,vc,rfl,BL,BM⟩:=hrw.shape;refine kP H (Kc K1 (SQ fun _ K2=>SB ?_));clear H K1;intro a H
  have wI:∀ (jJ iy:Nat) (v:aj) (G G':GH),(∀ k o,G k=some o->G' k=some o)->(fun (jJ iy:Nat) (v:aj) (G:GH)=>match iy with|0=>v=.slice vA j vc|1=>v=.slice tA lD.length tc|2=>v=.slice (some ⟨pb,po,none⟩) (qL s).length pc|3=>v=.slice (some ⟨lb,lo,none⟩) (eT s).length lc|4=>v=vi ((j:Int)+1)|5=>v=vi ((j:Int)+1 - 1)|6=>v=(aD lb (lo+j*1))|7=>v=vi x0|8=>v=(aD pb (po+x0*1))|9=>v=vi z|10=>v=vi (nV lD z)|11=>v=.slice (some ⟨lb,lo,none⟩) (eT s).length lc|12=>v=vi ((j:Int)+1)|13=>v=vi ((j:Int)+1 - 1)|14=>v=(aD lb (lo+j*1))|15=>v=vi x0|16=>v=.slice (some ⟨lb,lo,none⟩) (eT s).length lc|17=>v=vi ((j:Int)+1)|18=>v=(aD lb (lo+(j+1)*1))|19=>v=vi x1|20=>v=.agg #[vi (nV lD z),vi x0,vi x1]|21=>v=.slice (some ⟨jJ,0,none⟩) 1 1|_=>True) jJ iy v G->(fun (jJ iy:Nat) (v:aj) (G:GH)=>match iy with|0=>v=.slice vA j vc|1=>v=.slice tA lD.length tc|2=>v=.slice (some ⟨pb,po,none⟩) (qL s).length pc|3=>v=.slice (some ⟨lb,lo,none⟩) (eT s).length lc|4=>v=vi ((j:Int)+1)|5=>v=vi ((j:Int)+1 - 1)|6=>v=(aD lb (lo+j*1))|7=>v=vi x0|8=>v=(aD pb (po+x0*1))|9=>v=vi z|10=>v=vi (nV lD z)|11=>v=.slice (some ⟨lb,lo,none⟩) (eT s).length lc|12=>v=vi ((j:Int)+1)|13=>v=vi ((j:Int)+1 - 1)|14=>v=(aD lb (lo+j*1))|15=>v=vi x0|16=>v=.slice (some ⟨lb,lo,none⟩) (eT s).length lc|17=>v=vi ((j:Int)+1)|18=>v=(aD lb (lo+(j+1)*1))|19=>v=vi x1|20=>v=.agg #[vi (nV lD z),vi x0,vi x1]|21=>v=.slice (some ⟨jJ,0,none⟩) 1 1|_=>True) jJ iy v G':=by
   intro jJ iy v G G' hm h
   match iy,h with
   | 0,h=>exact h
   | 1,h=>exact h
   | 2,h=>exact h
   | 3,h=>exact h
   | 4,h=>exact h
   | 5,h=>exact h
   | 6,h=>exact h
   | 7,h=>exact h
   | 8,h=>exact h
   | 9,h=>exact h
   | 10,h=>exact h
   | 11,h=>exact h
   | 12,h=>exact h
   | 13,h=>exact h
   | 14,h=>exact h
   | 15,h=>exact h
   | 16,h=>exact h
   | 17,h=>exact h
   | 18,h=>exact h
   | 19,h=>exact h
   | 20,h=>exact h
   | 21,h=>exact h
   | 22,h=>exact trivial
   | 23,h=>exact trivial
   | _+24,h=>exact trivial
  refine Xe (fF) [[],[],[],[],[],[4],[3,4,5],ra 3 4,ra 2 6,ra 2 7,ra 1 9,[],[],[12],[11,12,13],ra 11 4,[],[],[16,17],[16,17,18],ra 1 19,ra 1 20,ra 0 22,ra 0 23] [22,23] Z Z 21 Y (.cells [vi (nV lD z),vi x0,vi x1].toArray 146 (0,0)) (fun (jJ iy:Nat) (v:aj) (G:GH)=>match iy with|0=>v=.slice vA j vc|1=>v=.slice tA lD.length tc|2=>v=.slice (some ⟨pb,po,none⟩) (qL s).length pc|3=>v=.slice (some ⟨lb,lo,none⟩) (eT s).length lc|4=>v=vi ((j:Int)+1)|5=>v=vi ((j:Int)+1 - 1)|6=>v=(aD lb (lo+j*1))|7=>v=vi x0|8=>v=(aD pb (po+x0*1))|9=>v=vi z|10=>v=vi (nV lD z)|11=>v=.slice (some ⟨lb,lo,none⟩) (eT s).length lc|12=>v=vi ((j:Int)+1)|13=>v=vi ((j:Int)+1 - 1)|14=>v=(aD lb (lo+j*1))|15=>v=vi x0|16=>v=.slice (some ⟨lb,lo,none⟩) (eT s).length lc|17=>v=vi ((j:Int)+1)|18=>v=(aD lb (lo+(j+1)*1))|19=>v=vi x1|20=>v=.agg #[vi (nV lD z),vi x0,vi x1]|21=>v=.slice (some ⟨jJ,0,none⟩) 1 1|_=>True) (fun _ _ i v G hi h=>by
   (iterate 24 (rcases i with _|i;(first|exact h|exact absurd O hi)));exact trivial) H ?_ ?_ ?_ Z
  ·clear H;refine aF ?_ ?_ ?_ ?_ (aF ?_ ?_ ?_ ?_ (aF ?_ ?_ ?_ ?_ (aF ?_ ?_ ?_ ?_ (aF ?_ ?_ ?_ ?_ (aF ?_ ?_ ?_ ?_ fB)))))
   ·exact sQ
   ·exact sQ
   ·exact sQ
   ·exact sQ
   ·exact sQ
   ·intro jJ oW av a w G1 _ _ ah hc hG HT hv;have H:=HT;clear ah;have H:=H.ak (hv 4 36 (hc 4 Y) O) O;have Hb:=H.full;have H:=Hb;clear hc;refine kH H (Rs O ?_);exact sS
   ·intro jJ oW av a w G1 _ _ ah hc hG HT hv;have H:=HT;clear ah;have H:=H.ak (hv 3 35 (hc 3 Y) O) O;have H:=H.ak (hv 5 37 (hc 5 Y) O) O;exact Ns
   ·intro jJ oW av a w G1 _ _ ah hc hG HT hv;have H:=HT;clear ah;have H:=H.ak (hv 6 38 (hc 6 Y) O) O;exact Nv
   ·intro jJ oW av a w G1 _ _ ah hc hG HT hv;have H:=HT;clear ah;have H:=H.ak (hv 2 34 (hc 2 Y) O) O;have H:=H.ak (hv 7 39 (hc 7 Y) O) O;have Hb:=H.full;have H:=Hb;clear hc;refine bO bP aG x0 H wn O O O hk O ?_;exact sS
   ·intro jJ oW av a w G1 _ _ ah hc hG HT hv;have H:=HT;clear ah;have H:=H.ak (hv 8 40 (hc 8 Y) O) O;have Hb:=H.full;have H:=Hb;clear hc;refine kH H (Rg aG O (aK hG g3) ?_);exact sS
   ·intro jJ oW av a w G1 _ _ ah hc hG HT hv;have H:=HT;clear ah;have H:=H.ak (hv 1 33 (hc 1 Y) O) O;have H:=H.ak (hv 9 41 (hc 9 Y) O) O;have Hb:=H.full;have H:=Hb;clear hc;refine s_call Y0 H wn O (find_spec _ _ H.ro lD z _ ((htb.mono hgm).mono hG) Y) O ?_;clear H;rintro v42 G42 a w rfl aai H;refine aB ⟨O,?_⟩;exact iN Z (wI jJ) O O HT Hb hG hv aai (rfl) H
   ·exact sQ
   ·exact sQ
   ·intro jJ oW av a w G1 _ _ ah hc hG HT hv;have H:=HT;clear ah;have H:=H.ak (hv 12 44 (hc 12 Y) O) O;have Hb:=H.full;have H:=Hb;clear hc;refine kH H (Rs O ?_);exact sS
   ·intro jJ oW av a w G1 _ _ ah hc hG HT hv;have H:=HT;clear ah;have H:=H.ak (hv 11 43 (hc 11 Y) O) O;have H:=H.ak (hv 13 45 (hc 13 Y) O) O;exact Ns
   ·intro jJ oW av a w G1 _ _ ah hc hG HT hv;have H:=HT;clear ah;have H:=H.ak (hv 14 46 (hc 14 Y) O) O;exact Nv
   ·exact sQ
   ·exact sQ
   ·intro jJ oW av a w G1 _ _ ah hc hG HT hv;have H:=HT;clear ah;have H:=H.ak (hv 16 48 (hc 16 Y) O) O;have H:=H.ak (hv 17 49 (hc 17 Y) O) O;have Hb:=H.full;have H:=Hb;clear hc;refine bO bP aG (j+1) H wn O O V V O ?_;exact sS
   ·intro jJ oW av a w G1 _ _ ah hc hG HT hv;have H:=HT;clear ah;have H:=H.ak (hv 18 50 (hc 18 Y) O) O;have Hb:=H.full;have H:=Hb;clear hc;refine kH H (Rg aG O (aK hG g2) ?_);exact sS
   ·intro jJ oW av a w G1 _ _ ah hc hG HT hv;have H:=HT;clear ah;have H:=H.ak (hv 10 42 (hc 10 Y) O) O;have H:=H.ak (hv 15 47 (hc 15 Y) O) O;have H:=H.ak (hv 19 51 (hc 19 Y) O) O;have Hb:=H.full;have H:=Hb;clear hc;refine jQ aeC [_,_,_] H wn O O O O ?_;exact sS
   ·intro _ _ _ _ _ _ _ hB;exact Ak
   ·intro _ _ _ _ _ _ hB;exact Ak
   intro _ _ _ _ _ _ hB;exact Ak
  ·clear H;intro o_ av a w G1 Br _ hc hG HT hv;obtain rfl:_=o_:=Option.some.inj Br;clear Br;have H:=HT;have H:=H.ak (hv 0 20 52 Y (hc 20 Y) O) O;have Hb:=H.full;have H:=Hb;clear hc;refine eU ji gF [_,_,_] [_,_,_] H wn O O O O O (by intro i q h;match i,h with|0,h=>exact h|n+1,h=>simp at h) O O ?_;clear H;intro CU a w agW H;refine aB ⟨O,CU,?_⟩;exact X9 Z O HT Hb hG (fun j e h1 h2 h3=>hv _ j e h1 h2 h3) (rfl) H
  clear H;intro CU a w G rJ H hv;have H:=H.ak (hv 0 32 O O) O;have H:=H.ak (hv 21 53 O O) O;clear hv;refine dV (Li:=[_]) (Lo:=Lo) (news:=[vi (nV lD z),vi x0,vi x1]) ji gF O O H wn O O hrw O (H.hp.dw 0 O O) O V V O ?_;clear H;intro v54 LP a w abB H
  have abC:aZ 146 3 v54 (j+1) (((cu s).take (j+1)).map dx.cells).flatten LP:=by
   rw [kg hjc,aaH,ku,List.flatten_append];exact abB
  refine kH H (Ra O ?_);clear H;intro a H;refine aB ⟨O,?_⟩;refine K2 _ _ ?_;clear K2;refine kP H (SC (Rm O (Rd O (Ra O ?_))));clear H;intro a H;refine aB ?_;refine aX ((j+1,v54,LP,G)) (by exact (H.dB (Pl:=[_]) (bS:=[]) [] Y O).sub ⟨O,O,O,O,O,aH⟩) ?_
  (try dsimp only);exact ⟨V,abC,fun b o h=>rJ b o (hgm b o h)⟩
 intro uU a H
 try have p29:=dF uU
 refine bQ ?_;refine K3 _ _ ?_;clear K3;refine kP H (SR fun _ K2=>Rm O (Ra O (au K2 O ?_)));clear H K2;intro a H;refine bN ?_
 have hlc:(cu s).length=(eT s).length - 1:=by simp [cu]
 obtain ⟨Gr,hmr,hrep,H⟩:=St.kU (Li:=[]) (Lo:=Lo) H hrw (rows:=(cu s).map dx.dat) (by rw [bG];omega) (by rw [gX V];exact XF _ _);refine (bZ H results49 (.cons (aJ H O) (.cons (aJ H O) .nil)) ?_).1;exact Aj
theorem Kj {G0:GH} (G:GH) (w0:World) (hG:Hold G w0) (h0:∀ b o,G0 b=some o->G b=some o) (s:ByteArray) (hs:iC G0 s) :
  Calls prog 40 #[.string s] w0 (bK w0 G fun u G'=>∃ x,u=.tuple #[x,vi 0]∧ay G' (.sl 3 ((gZ (cu s)).map dN.dat)) x):=by
 have hcl:=yg s;have hsz:=hs.size
 have hlc:(cu s).length=(kJ s).length:=by simp [cu,eT]
 have htl:=Ch (cu s).length (cu s);refine eN [(0,_)] func40 O ntmps40 O O hG ?_;intro a H;refine kP H (SR fun _ K1=>Ra O (au K1 O (SR fun _ K2=>Rm O ?_)));clear H K1;intro a H;refine s_call YD H wn O (aed _ _ H.ro h0 s hs) O ?_;clear H;rintro v8 G8 a w ⟨x8,rfl,hcs⟩ hm8 H;refine kH H (Rm O ?_);clear H;intro a H;(iterate 2 refine fG H wn O O O ?_;clear H;intro a H);refine kH H (Ra O (au K2 O (SQ fun _ K1=>SR fun _ K3=>Rm O (Rc O (Kz K3 (Cd O ?_ ?_)))))) <;> clear H K2 K3
 ·intro h12 a H
  exact absurd h12 Y
 intro h12 a H
 try have rR:=dF h12
 refine kP H (Kc K1 (SR fun _ K2=>Rm O ?_));clear H K1;intro a H;refine jR YG (Li:=[]) (L:=[]) H wn O (afg (Hp.owns (Li:=[]) H.hp) _ _ hcs) O ?_;clear H;rintro v15 _ L15 a w ⟨rfl,bx,rfl,rfl⟩ - H;dsimp only [List.nil_append] at H;refine jR YE (Li:=[]) (L:=[_]) H wn O (XJ (Hp.owns (Li:=[]) H.hp) (by unfold gZ;omega) (aff hcs)) rfl ?_;clear H;rintro v16 FI L16 a w ⟨rfl,hrep⟩ El H;dsimp only [List.nil_append] at H;refine kH H (Ra O (au K2 O ?_));clear H K2;intro a H;refine bN ?_;refine (bZ H results40 (.cons (aJ H O) (.cons (aJ H O) .nil)) ?_).1;exact Aj
theorem Hq:bD 40:=bH func40 O
theorem KO:prog.underlying 149=some (.slice 21):=by kernel_rfl
theorem YJ:bD 53:=bH func53 O
theorem afq:Ty prog 21 1 4 [.int .i32 0] false:=⟨Z,Z⟩
theorem jT:prog.underlying 40=some (.slice 9):=by kernel_rfl
theorem A8:fu prog 103 1 1:=⟨Z⟩
theorem A9:fu prog 103 2 2:=⟨Z⟩
theorem YH:bD 52:=bH func52 O
def LH (N:Int) (l:List dx):Prop:=∀ i j (hi:i < l.length) (hj:j < l.length),i<=j->0<=l[i].from_∧l[i].from_ < l[j].to∧l[j].to<=N
theorem UH {N:Int}:∀ (f:Nat) (l:List dx),LH N l->∀ t∈lY f l,0<=t.from_∧t.from_ < t.to∧t.to<=N
 | 0,_,_,t,ht=>by simp [lY] at ht
 | f+1,l,hl,t,ht=>by
  rw [lY] at ht
  split at ht
  ·rename_i h
   have hb:=JE h
   rcases mq.1 ht with rfl|ht
   ·exact hl 0 ((jX l).1 - 1) h V (dO _)
   refine UH f (l.drop (jX l).1) (fun i j hi hj hij=>?_) t ht;rw [List.length_drop] at hi hj;have:=hl ((jX l).1+i) ((jX l).1+j) V V V
   simpa only [List.getElem_drop] using this
  cases ht
theorem Wp (s:ByteArray):(eT s).Pairwise (· < ·):=by
 have hi:=Dy s.size (eD s) 0 0 0 ⟨0,false,false,0⟩;rw [show mG s.size (eD s) 0 0 0 ⟨0,false,false,0⟩=kJ s from rfl] at hi;exact OH
theorem XE (s:ByteArray):LH (eD s).length (cu s):=by
 intro i j hi hj hij
 simp only [cu,bG,List.length_range] at hi hj
 have e1:(cu s)[i]'(by simpa [cu] using hi)=AQ s i:=by simp [cu]
 have e2:(cu s)[j]'(by simpa [cu] using hj)=AQ s j:=by simp [cu]
 rw [e1,e2]
 simp only [AQ,List.getD_eq_getElem?_getD,gU (show i < (eT s).length by omega),gU (show j+1 < (eT s).length by omega),Option.getD_some]
 have h1:=List.pairwise_iff_getElem.1 (Wp s) i (j+1) V V V;have h2:=(L8 (show j+1 < (eT s).length by omega)).2
 omega
theorem Fg (s:ByteArray):∀ t∈gZ (cu s),0<=t.from_∧t.from_ < t.to∧t.to<=(eD s).length:=UH _ _ (XE s)
def pW (s:ByteArray) (t:dN):ByteArray:=runesBytes ((((eD s).map fun x=>(x.2:Int)).drop t.from_.toNat).take (t.to.toNat - t.from_.toNat))
def mW (s:ByteArray):List ByteArray:=(gZ (cu s)).map (pW s)
def kQ (s:ByteArray):List Dat:=[.lf (.string s)]
theorem aeK (G:GH) (s:ByteArray):aT G (kQ s) [.string s]:=by
 simp only [kQ,aT]
 exact F3
theorem aeJ {G:GH} {s:ByteArray} {cs:List aj} (h:aT G (kQ s) cs):cs=[.string s]:=by
 simp only [kQ,aT,ay] at h
 exact Gy
theorem Kk {G:GH} {r:List ByteArray} {A:Option Addr} {n c k:Nat} (hv:ay G (.sl 1 (r.map kQ)) (.slice A n c)) (hk:k < r.length):∃ b o,A=some ⟨b,o,none⟩∧aQ G b (o+k*1)=some (.string r[k]):=by
 obtain ⟨A',c',he,_,_,hg⟩:=hv.slice
 injection he with e1 e2 e3
 subst e1;obtain ⟨b,o,cs,h1,h2,h3,h4⟩:=hg k (kQ r[k]) (by simp [hk]);obtain rfl:=aeJ h4;exact ⟨b,o,h1,h3 0 _ O⟩
theorem Uw (G:GH):∀ (B A:List ByteArray),bU G 1 (A.map kQ) (A.map Value.string)->bU G 1 ((A++B).map kQ) ((A++B).map Value.string)
 | [],A,h=>by rw [kr];exact h
 | x :: B,A,h=>by
  have h2:=h.snoc (aeK G x) O;have h3:=Uw G B (A++[x]) (by simpa using h2)
  simpa using h3
theorem Kl (G:GH) (A:List ByteArray):bU G 1 (A.map kQ) (A.map Value.string):=Uw G A [] bU.nil
def qM (z:Int):List Dat:=[.lf (.int .i32 z)]
theorem ads (G:GH) (z:Int):aT G (qM z) [.int .i32 z]:=by
 simp only [qM,aT]
 exact F3
theorem adq {G:GH} {s:Int} {cs:List aj} (h:aT G (qM s) cs):cs=[.int .i32 s]:=by
 simp only [qM,aT,ay] at h
 exact Gy
theorem TG (G:GH):∀ (B A:List Int),bU G 1 (A.map qM) (A.map (Value.int .i32))->bU G 1 ((A++B).map qM) ((A++B).map (Value.int .i32))
 | [],A,h=>by rw [kr];exact h
 | x :: B,A,h=>by
  have h2:=h.snoc (ads G x) O;have h3:=TG G B (A++[x]) (by simpa using h2)
  simpa using h3
theorem adv (G:GH) (A:List Int):bU G 1 (A.map qM) (A.map (Value.int .i32)):=TG G A [] bU.nil
theorem adw {G:GH} {r:List Int} {A:Option Addr} {n c:Nat} (hv:ay G (.sl 1 (r.map qM)) (.slice A n c)) {lo hi:Nat} (h1:lo < hi) (h2:hi<=r.length):∃ b o,(if c=lo then A else A.map (·.add (lo*1)))=some ⟨b,o,none⟩∧∀ j (h:j < ((r.drop lo).take (hi - lo)).length),aQ G b (o+j)=some (.int .i32 ((r.drop lo).take (hi - lo))[j]):=by
 have hp:=hv.part lo hi V (by rw [bG];exact h2);obtain ⟨A',c',he,_,_,hg⟩:=hp.slice
 injection he with e1 e2 e3
 have hrow:∀ j (h:j < ((r.drop lo).take (hi - lo)).length),((List.map qM r).drop lo |>.take (hi - lo))[j]?=some (qM ((r.drop lo).take (hi - lo))[j]):=by
  intro j h;rw [<- List.map_drop,<- List.map_take,oD,gU h];rfl
 obtain ⟨b,o,cs,g1,g2,g3,g4⟩:=hg 0 _ (hrow 0 (by simp;omega));refine ⟨b,o,e1.trans g1,fun j h=>?_⟩;obtain ⟨b',o',cs',k1,k2,k3,k4⟩:=hg j _ (hrow j h)
 obtain ⟨rfl,rfl⟩:b=b'∧o=o':=by rw [g1] at k1;simpa using k1
 obtain rfl:=adq k4;have:=k3 0 _ O
 simpa using this
theorem afi (G:GH) (w0:World) (hG:Hold G w0) (x y z:Int):Calls prog 53 #[.agg #[vi x,vi y,vi z]] w0 (bK w0 G fun u G'=>u=.bool true):=by
 refine eN [(0,_)] func53 O ntmps53 O O hG ?_;intro a H;refine iV (fun _ K1=>?_);refine lV (cs:=[_,_,_]) H wn O O O ?_;clear H;intro b1 a w hb1 H;exact kH H (au K1 O (SR fun _ K2=>au K2 O (LR results53 O fun H=>H.rt O)))
set_option maxHeartbeats 1000000 in
theorem aeH {G0:GH} (G:GH) (w0:World) (hG:Hold G w0) (h0:∀ b o,G0 b=some o->G b=some o) (s:ByteArray) (hs:iC G0 s) :
  Calls prog 52 #[.string s,.func (.func 53) #[] #[]] w0 (bK w0 G fun u G'=>∃ x,u=.tuple #[x,vi 0]∧ay G' (.sl 1 ((mW s).map kQ)) x):=by
 have hml:maxLen=9223372036854775807:=rfl;have hcl:=yg s;have hsz:=hs.size
 have hlc:(cu s).length=(kJ s).length:=by simp [cu,eT]
 have htl:=Ch (cu s).length (cu s);rw [show lY (cu s).length (cu s)=gZ (cu s) from rfl] at htl;have hrl:(eD s).length<=s.size:=zC s s.size 0;refine eN [(0,_),(1,_)] func52 O ntmps52 O O hG ?_;intro a H;refine kP H (SR fun _ K1=>Ra O (au K1 O (SR fun _ K2=>Rm O ?_)));clear H K1;intro a H;refine s_call Hq H wn O (Kj _ _ H.ro h0 s hs) O ?_;clear H;rintro v14 LA a w ⟨x14,rfl,htk⟩ Ej H;obtain ⟨tA,tc,rfl,-,-,-⟩:=htk.slice;rw [bG] at *;refine kH H (Rm O ?_);clear H;intro a H;(iterate 2 refine fG H wn O O O ?_;clear H;intro a H);refine kH H (Ra O (au K2 O (SQ fun _ K1=>SR fun _ K3=>Rm O (Rc O (Kz K3 (Cd O ?_ ?_)))))) <;> clear H K2 K3
 ·intro h18 a H
  exact absurd h18 Y
 intro h18 a H
 try have qJ:=dF h18
 refine kP H (Kc K1 (SR fun _ K2=>Rm O ?_));clear H K1;intro a H;refine adS iH KO KQ H wn O V O ?_;clear H;intro v21 VJ a w RJ H;rw [kr] at H;rw [show ((eD s).map fun x=>Value.int .i32 (x.2:Int))=((eD s).map fun x=>(x.2:Int)).map (Value.int .i32) by rw [List.map_map];rfl] at RJ;obtain ⟨vK,oK,hrn,H⟩:=St.kU (Li:=[]) (Lo:=VJ) H RJ (rows:=((eD s).map fun x=>(x.2:Int)).map qM) (by simp) (adv LA _);obtain ⟨rA,rc,rfl,hrc,-,-⟩:=hrn.slice;rw [bG,bG] at *;refine kH H (au K2 O (SR fun _ K1=>au K1 O (SQ fun _ K3=>SR fun _ K4=>Rm O (Rl sj O (Rm O (Kz K4 (SB ?_)))))));clear H K2 K1 K4;intro a H;skip;refine dz (ι:=Nat × aj × OL × GH) (Tc:=[(1,_),(8,_),(22,_),(23,_)]) (Lc:=[]) (fun gh=>[(9,gh.2.1),(24,vi gh.1)]) (fun gh=>[]++gh.2.2.1) (fun gh=>gh.2.2.2) (fun gh=>gh.1<=(gZ (cu s)).length∧aZ 9 1 gh.2.1 gh.1 (((mW s).take gh.1).map Value.string) gh.2.2.1∧(∀ b o,vK b=some o->gh.2.2.2 b=some o)) (fun gh=>(gZ (cu s)).length - gh.1) ((0,.slice none 0 0,[],vK)) (by exact H.sub ⟨O,O,O,O,O,O,aH⟩) ?_ ?_
 ·exact FZ
 clear H;rintro ⟨k,v,Lo,g⟩ a w hI H;dsimp only at hI H;obtain ⟨hk,hrw,hgm⟩:=hI;dsimp only [lca,bR] at H;refine kP H (SR fun _ K1=>Rc O (Kz K1 (SQ fun _ K2=>Cd O ?_ ?_))) <;> clear H K1
 ·intro gK a H
  try have p25:=dT gK
  have hk1:k < (gZ (cu s)).length:=by omega
  obtain ⟨b,o,rfl,hrow⟩:=Ky ((htk.mono oK).mono hgm) hk1;obtain ⟨t,ht⟩:∃ t,t=(gZ (cu s))[k]:=⟨_,O⟩;have htb:=Fg s t (by rw [ht];exact dK _);rw [<- ht] at hrow
  have hxt:(mW s)[k]?=some (pW s t):=by rw [mW,oD,gU hk1,oF,ht]
  have hkx:k < (mW s).length:=(fV.1 hxt).1;have abV:(mW s)[k]=pW s t:=(fV.1 hxt).2
  have hf0:t.from_=(t.from_.toNat:Int):=by omega
  have ht0:t.to=(t.to.toNat:Int):=by omega
  refine kP H (Kc K2 (SQ fun _ K1=>SB (SR fun _ K4=>Ri sj mh O O ?_)));clear H K2;intro a H;refine dL mh (cs:=[_,_,_]) H wn O O (fun j v hj=>H.hp.aQ (hrow j v hj)) O ?_;clear H;intro a H;refine jv mh H wn O ?_;clear H;intro b11 a w Q5 H;refine eZ mh 0 (vs:=[_,_,_]) H wn O ?_;clear H;intro w H;refine K4 _ _ ?_;clear K4;refine kP H (SR fun _ K2=>Rm O ?_);clear H;intro a H;refine dL mh (cs:=[_,_,_]) H wn O O (H.hp.dw 0 O O) O ?_;clear H;intro a H;refine wT H wn O O (rE (caps:=[]) (args:=[_]) YJ (afi _ _ H.ro _ _ _)) O ?_;clear H;rintro v30 Cz a w rfl Bp H;refine K2 _ _ ?_;clear K2;refine rC H O ?_ ?_
  ·intro Ih
   try have p30:=dT Ih
   refine kP H (SC (Rm O (Rm O (fJ A8 aG 0 O O (fJ A9 aG 0 O O ?_)))));clear H;intro a H;obtain ⟨pb,po,hpA,hpc⟩:=adw ((hrn.mono hgm).mono Bp) (show t.from_.toNat < t.to.toNat by omega) (show t.to.toNat<=((eD s).map fun x=>(x.2:Int)).length by rw [bG];omega);refine J6 KO afq t.from_.toNat t.to.toNat H wn O O O hf0 ht0 V V O ?_;clear H;intro a H;rw [hpA] at H;refine adQ _ KO KQ iH H wn O (by simp;omega) (fun j hj=>H.hp.aQ (hpc j hj)) O ?_;clear H;intro a H;skip;rw [show runesBytes ((((eD s).map fun x=>(x.2:Int)).drop t.from_.toNat).take (t.to.toNat - t.from_.toNat))=pW s t from rfl] at H;refine eU jT iZ [_] [_] H wn O O O O O (by intro i q h;match i,h with|0,h=>exact h|n+1,h=>simp at h) O O ?_;clear H;intro mE a w Eh H;refine dV (Li:=[_,_]) (Lo:=Lo) (news:=[.string (pW s t)]) jT iZ O O H wn O O hrw O (H.hp.dw 0 O O) O V V O ?_;clear H;intro v40 LM a w aby H
   have abz:aZ 9 1 v40 (k+1) (((mW s).take (k+1)).map Value.string) LM:=by
    rw [kg hkx,abV,ku];exact aby
   refine kH H (cO K1 O (SC (Rd O (Rm O ?_))));clear H K1;intro a H;refine aB ?_;refine aX ((k+1,v40,LM,Cz)) (by exact (H.dB (Pl:=[_,_]) (bS:=[]) [] Y O).sub ⟨O,O,O,O,O,O,aH⟩) ?_
   (try dsimp only);exact ⟨V,abz,fun b o h=>Bp b o (hgm b o h)⟩
  intro Ih
  exact absurd Ih Y
 intro gK a H
 try have p25:=dF gK
 refine bQ ?_;refine K3 _ _ ?_;clear K3;refine kP H (SR fun _ K1=>Rm O (Ra O (au K1 O ?_)));clear H K1;intro a H;refine bN ?_
 have hlx:(mW s).length=(gZ (cu s)).length:=by simp [mW]
 obtain ⟨Gr,hmr,hrep,H⟩:=St.kU (Li:=[]) (Lo:=Lo) H hrw (rows:=(mW s).map kQ) (by rw [bG];omega) (by rw [gX V];exact Kl _ _);refine (bZ H results52 (.cons (aJ H O) (.cons (aJ H O) .nil)) ?_).1;exact Aj
theorem aeG {G0:GH} (G:GH) (w0:World) (hG:Hold G w0) (h0:∀ b o,G0 b=some o->G b=some o) (s:ByteArray) (hs:iC G0 s) :
  Calls prog 41 #[.string s] w0 (bK w0 G fun u G'=>∃ x,u=.tuple #[x,vi 0]∧ay G' (.sl 1 ((mW s).map kQ)) x):=by
 refine eN [(0,_)] func41 O ntmps41 O O hG ?_;intro a H;refine kP H (SR fun _ K1=>Ra O (au K1 O (SR fun _ K2=>Rm O ?_)));clear H K1;intro a H;refine s_call YH H wn O (aeH _ _ H.ro h0 s hs) O ?_;clear H;rintro v5 G5 a w ⟨x5,rfl,hrep⟩ I9 H;(iterate 2 refine fG H wn O O O ?_;clear H;intro a H);refine kH H (Ra O (au K2 O ?_));clear H K2;intro a H;refine bN ?_;refine (bZ H results41 (.cons (aJ H O) (.cons (aJ H O) .nil)) ?_).1;exact Aj
theorem Tz {s:ByteArray}:∀ (q i f g:Nat),s.size - i<=q->s.size - i<=f->s.size - i<=g->eH s i < 0->(iY s f i).length=(pU s g i).length
 | 0,i,f,g,hq,_,_,_=>by rw [wQ V,JO V];rfl
 | q+1,i,f,g,hq,hf,hg,h=>by
  by_cases hi:i < s.size
  ·have hs:=nL h hi;have hd:=uQ h hi;have he:=tC hi hs.1;rw [Ca hf hi,Tm hg hi,jB,jB,he.1,Tz q _ (f - 1) (g - 1) V V V hs.2]
  rw [wQ V,JO V];rfl
theorem Un {G0:GH} (ht:sH G0) {s:ByteArray} (hs:s.size<=1073741824) (hv:dW s=true):iC G0 s:=by
 have hf:eH s 0 < 0:=by simpa [dW] using hv
 refine ⟨hs,hv,⟨fun G w0 h0 hG=>?_⟩,Tz _ 0 _ _ (aV _) V V hf⟩;have hT:sH G:=⟨fun c hc=>aK h0 (ht.first c hc),fun i hi=>⟨aK h0 (ht.acc i hi).1,aK h0 (ht.acc i hi).2⟩⟩;have h:=afF G w0 hG hT s hs
 have e:Go.Lib.validD s.data.toList=true:=by simpa using Vb _ 0 (aV _) hf
 rw [e] at h;exact h
section
section
variable {N:Nat} {D:List Deferred} {w0:World} {F:Nat->Prop} {G0 G:GH} {L:OL} {T:List (Nat × aj)}
variable {r:Option Nat} {P:Program} {ops:Array Oper} {Q:Exit->Act->World->Prop} {rest:List Oper} {a:Act} {w:World}
variable {d:Nat} {ty:TypeId} {pos:String} {aC:Array Edge} {g:Option (Nat × Bool)}
theorem afz {w:World} {b:Nat} {c c':Array aj} {e:TypeId} (h:w.heap[b]?=some (.cells c e (0,0))):mZ b (.cells c' e (0,0)) w (w.setRow b c'):=by
 have hlt:b < w.heap.size:=(Array.getElem?_eq_some_iff.1 h).1
 refine ⟨O,O,O,by simp [World.setRow],?_,fun k hk=>?_⟩
 ·simp only [World.setRow,Array.getElem?_modify,aM,h,oF]
 ·simp only [World.setRow,Array.getElem?_modify,aL (Ne.symm hk)]
theorem adC {t u e:TypeId} (hs:P.underlying t=some (.slice e)) (hz:(P.info? e).map (·.size)=some 1) {x y:Operand} {b i n:Nat} {s:ByteArray} {c:List aj} (H:St N D w0 F G0 G L T a w)
  (hw:Region.wanted ⟨some d,.call { callee:=.builtin .copy,args:=#[x,y],argTypes:=#[t,u] },ty,pos,aC,g⟩ (yielded ops a.tmps)=true) (hx:ev T x=some (.slice (some ⟨b,0,none⟩) n n)) (hy:ev T y=some (.string s)) (hi:L[i]?=some (b,.cells c.toArray e (0,0)))
  (hn:s.size=n) (hc:c.length=n) (hd:Nat.blt d N=true)
  (k:∀ a' w',St N D w0 F G0 G (L.set i (b,.cells (Lib.byteCells s.data.toList).toArray e (0,0))) ((d,.int .i64 n) :: T) a' w'->WL r P ops Q rest a' w') :
  WL r P ops Q (⟨some d,.call { callee:=.builtin .copy,args:=#[x,y],argTypes:=#[t,u] },ty,pos,aC,g⟩ :: rest) a w:=by
 have hb:=H.hp.own _ (iU hi)
 have hr:=Lib.run_copy_row_string (P:=P) w t u ty e b 0 n n s c.toArray e hs hz hb V (by simp;omega)
 have e1:(c.toArray.toList.take 0++Lib.byteCells s.data.toList++c.toArray.toList.drop (0+s.size))=Lib.byteCells s.data.toList:=by
  simp;omega
 rw [e1] at hr
 refine bX (v:=.int .i64 n) (w':=w.setRow b (Lib.byteCells s.data.toList).toArray) hw O ?_ (k _ _ (H.put hd _ (H.hp.upd hi (afz hb))))
 simp [execOp,resolve,invoke,builtin,H.ev hx,H.ev hy,bE,hr,goInt,hn]
end
end
theorem uo:prog.underlying 85=some (.slice 5):=by kernel_rfl
theorem Cq:Ty prog 5 1 1 [.int .u8 0] false:=⟨Z,Z⟩
theorem U5:prog.underlying 111=some (.pointer 5):=by kernel_rfl
theorem Y4:bD 70:=bH func70 O
theorem YT:bD 60:=bH func60 O
theorem YU:bD 61:=bH func61 O
theorem aem:(prog.info? 5).map (·.size)=some 1:=by kernel_rfl
theorem XC (G:GH) (w0:World) (hG:Hold G w0) (s:ByteArray) (hs:s.size<=1073741824):Calls prog 70 #[.string s] w0 (bK w0 G fun u G'=>u=.string s):=by
 refine eN [(0,_)] func70 O ntmps70 O O hG ?_;intro a H;refine kP H (SR fun _ K1=>au K1 O (SQ fun _ K2=>SR fun _ K3=>Rm O (Rv iH O (Rc O (Kz K3 (Cd O ?_ ?_)))))) <;> clear H K1 K3
 ·intro h6 a H
  try have p6:=dT h6
  have he:s=⟨#[]⟩:=by
   have h0:s.size=0:=by omega
   have h1:s.data.size=0:=h0;exact ByteArray.ext (Array.eq_empty_of_size_eq_zero h1)
  exact kP H (SR fun _ K1=>au K1 O (LR results70 O fun H=>H.rt (by rw [he])))
 intro h6 a H
 try have p6:=dF h6
 refine kP H (Kc K2 (SR fun _ K1=>Rm O (Rv iH O ?_)));clear H K2;intro a H;refine lW s.size uo Cq H wn O O O V V O ?_;clear H;intro b9 a w IE H;refine kH H (au K1 O (SR fun _ K2=>Rm O (Rm O ?_)));clear H K1;intro a H;refine adC (i:=0) uo aem H wn O O O O (by simp) O ?_;clear H;intro a w H;dsimp only [List.set] at H;refine K2 _ _ ?_;clear K2;refine kP H (SR fun _ K1=>Rm O ?_);clear H;intro a H;refine bO uo Cq 0 H wn O O O V O ?_;clear H;intro a H;refine kH H (Rm O (Rl uo O ?_));clear H;intro a H;have hl:s.data.toList.length=s.size:=(Go.Lib.size_eq s).symm;refine Ud (i:=0) s.data.toList U5 Z (by intro e;rw [e] at hl;simp at hl;omega) V H wn rfl (by rw [hl];rfl) rfl (by rw [List.toList_toArray];exact gX (by rw [Go.Lib.byteCells_length];exact aV _)) O ?_;clear H;intro fz a w H;exact kH H (au K1 O (LR results70 O fun H=>H.rt (by simp)))
theorem XD (G:GH) (w0:World) (hG:Hold G w0) (s:ByteArray) (hs:s.size<=1073741824):Calls prog 61 #[.string s] w0 (bK w0 G fun u G'=>u=.string s):=by
 refine eN [(0,_)] func61 O ntmps61 O O hG ?_;intro a H;refine kP H (SR fun _ K1=>au K1 O (SR fun _ K2=>Rm O ?_));clear H K1;intro a H;refine s_call Y4 H wn O (XC _ _ H.ro s hs) O ?_;clear H;rintro v4 G4 a w rfl hm4 H;exact kH H (au K2 O (LR results61 O fun H=>H.rt O))
set_option maxRecDepth 10000 in
theorem V4:∀ X:Fin 256,lM .and .u8 ((X.val:Nat):Int) 192=128↔(128<=X.val∧X.val<=191):=by decide
theorem R7 {s:ByteArray} {i:Nat} (h:i < s.size):(¬ lM .and .u8 (s[i].toNat:Int) 192=128)↔oL s i=true:=by
 have h1:=V4 ⟨s[i].toNat,s[i].toNat_lt⟩;dsimp only at h1;rw [h1,oL,oG h]
 simp only [gG]
 omega
def uK (s:ByteArray) (k:Nat):List Nat:=(List.range k).filter (oL s)
theorem L9 (s:ByteArray) (k:Nat):uK s (k+1)=uK s k++(if oL s k=true then [k] else []):=by
 rw [uK,List.range_succ,List.filter_append,List.filter_cons]
 rfl
theorem Ws (s:ByteArray) (k:Nat):(uK s k).length<=k:=by
 have:=List.length_filter_le (oL s) (List.range k)
 rwa [List.length_range] at this
theorem Wt (G:GH) (w0:World) (hG:Hold G w0) (s:ByteArray) (hs:s.size<=1073741824):Calls prog 60 #[.string s] w0 (bK w0 G fun u G'=>ay G' (.sl 1 (((rz s).map fun x:Nat=>(x:Int)).map eF)) u):=by
 have hml:maxLen=9223372036854775807:=rfl;refine eN [(0,_)] func60 O ntmps60 O O hG ?_;intro a H;refine kP H (SR fun _ K1=>au K1 O (SR fun _ K2=>au K2 O (SQ fun _ K3=>SR fun _ K4=>Rm O (Rv iH O (Rm O (Kz K4 (SB ?_)))))));clear H K1 K2 K4;intro a H;skip;refine dz (ι:=Nat × aj × OL) (Tc:=[(0,_),(6,_)]) (Lc:=[]) (fun gh=>[(3,gh.2.1),(7,vi gh.1)]) (fun gh=>[]++gh.2.2) (fun gh=>G) (fun gh=>gh.1<=s.size∧aZ 3 1 gh.2.1 (uK s gh.1).length (((uK s gh.1).map fun x:Nat=>(x:Int)).map vi) gh.2.2) (fun gh=>s.size - gh.1) ((0,.slice none 0 0,[])) (by exact H.sub ⟨O,O,O,O,aH⟩) ?_ ?_
 ·exact ⟨dO _,aZ.nil⟩
 clear H;rintro ⟨k,v,Lo⟩ a w hI H;dsimp only at hI H;obtain ⟨hk,hrw⟩:=hI;have hbl:=Ws s k;dsimp only [lca,bR] at H;refine kP H (SR fun _ K1=>Rc O (Kz K1 (SQ fun _ K2=>Cd O ?_ ?_))) <;> clear H K1
 ·intro h8 a H
  try have p8:=dT h8
  have hk1:k < s.size:=by omega
  refine kP H (Kc K2 (SQ fun _ K1=>SB (SR fun _ K4=>Rm O (au K4 O (SR fun _ K5=>Rm O (Rm O ?_))))));clear H K2 K4;intro a H;refine wU _ iH H wn O O O (by first|assumption|omega) rfl ?_;clear H;intro a H;refine EL O H wn O O O ?_;clear H;intro a H;refine kH H (Rc O (Kz K5 (Cd O ?_ ?_))) <;> clear H K5
  ·intro dQ a H
   try have jr:=dT dQ
   refine kP H (SC (Rm O (Rm O ?_)));clear H;intro a H;refine eU bP aG [_] [_] H wn O O O O O (by intro i q h;match i,h with|0,h=>exact h|n+1,h=>simp at h) O O ?_;clear H;intro b17 a w Q6 H;refine dV (Li:=[_]) (Lo:=Lo) (news:=[vi k]) bP aG O O H wn O O hrw O (H.hp.dw 0 O O) O V V O ?_;clear H;intro v18 Ad a w zk H;refine kH H (cO K1 O (SC (Rd O (Rm O ?_))));clear H K1;intro a H;refine aB ?_;refine aX ((k+1,v18,Ad)) (by exact (H.dB (Pl:=[_]) (bS:=[]) [] Y O).sub ⟨O,O,O,O,aH⟩) ?_
   (try dsimp only);exact ⟨V,by rw [L9,aM ((R7 hk1).1 jr),gW,ku,ku];exact zk⟩
  intro dQ a H
  try have jr:=dF dQ
  refine kP H (Kc K1 (SC (Rd O (Rm O ?_))));clear H K1;intro a H;refine aB ?_;refine aX ((k+1,v,Lo)) (by exact H.sub ⟨O,O,O,O,aH⟩) ?_
  (try dsimp only);exact ⟨V,by rw [L9,aL (by rw [<- R7 V];exact jr),kr];exact hrw⟩
 intro h8 a H
 try have p8:=dF h8
 refine bQ ?_;refine K3 _ _ ?_;clear K3;refine kP H (SR fun _ K1=>Rm O (Rm O (Rv iH O ?_)));clear H;intro a H;refine eU bP aG [_] [_] H wn O O O O O (by intro i q h;match i,h with|0,h=>exact h|n+1,h=>simp at h) O O ?_;clear H;intro V7 a w aav H
 have hke:k=s.size:=by omega
 refine dV (Li:=[_]) (Lo:=Lo) (news:=[vi s.size]) bP aG O O H wn O O hrw O (H.hp.dw 0 O O) O V V O ?_;clear H;intro v24 FJ a w wM H;rw [hke] at wM;obtain ⟨Gr,hmr,hrep,H⟩:=St.kU (Li:=[_]) (Lo:=FJ) H wM (rows:=((rz s).map fun x:Nat=>(x:Int)).map eF) (by simp [rz,uK]) (by have:=wO G ((rz s).map fun x:Nat=>(x:Int));rw [rz] at this |-;simpa [uK] using this);exact kH H (au K1 O (LR results60 O fun H=>H.rt hrep))
theorem aes (G:GH) (w0:World) (hG:Hold G w0) (s:ByteArray) (hs:s.size<=1073741824) (hv:dW s=true) (u vv:Nat) (huv:u<=vv) (hvl:vv<=(eD s).length) :
  Calls prog 47 #[.string s,vi u,vi vv] w0 (bK w0 G fun r G'=>r=.tuple #[.string (s.extract (eG s 0 u) (eG s 0 vv)),vi 0]):=by
 have hf:eH s 0 < 0:=by simpa [dW] using hv
 have hol:(rz s).length=(eD s).length+1:=by rw [Ma hv];simp [Ey]
 have hau:=xL u 0 hf (dO _);have hav:=xL vv 0 hf (dO _)
 have abQ:eG s 0 u<=eG s 0 vv:=by
  have h1:=FP (s:=s) u 0 (vv - u);rw [show u+(vv - u)=vv by omega] at h1;rw [h1];exact (xL (vv - u) (eG s 0 u) (FQ u 0 hf (dO _)) hau.2).1
 have eu:=Td hv (show u<=(eD s).length by omega);have ev:=Td hv hvl;rw [<- Ma hv] at eu ev;refine eN [(0,_),(1,_),(2,_)] func47 O ntmps47 O O hG ?_;intro a H;refine kP H (SR fun _ K1=>Ra O (au K1 O (SQ fun _ K2=>SR fun _ K3=>Rm O ?_)));clear H K1;intro a H;refine s_call AZ H wn O (Cw _ _ H.ro s V) O ?_;clear H;rintro v10 _ a w ⟨rfl,rfl⟩ - H;rw [hv] at H;refine kH H (Rn O (Kz K3 (Cd O ?_ ?_))) <;> clear H K3
 ·intro h11 a H
  exact absurd h11 Y
 intro h11 a H
 try have oO:=dF h11
 refine kP H (Kc K2 (SR fun _ K1=>Rm O ?_));clear H K2;intro a H;refine s_call YT H wn O (Wt _ _ H.ro s hs) O ?_;clear H;rintro v13 FH a w Jk vg H;obtain ⟨bA,bc,rfl,-,-,-⟩:=Jk.slice;rw [bG,bG,hol] at H;refine kH H (au K1 O (SQ fun _ K2=>SR fun _ K3=>Rm O (Rc O (Rm O (Sp 16 O ?_ ?_))))) <;> clear H K1
 ·intro h16 a H
  try have p16:=dT h16
  exfalso;omega
 intro h16 a H
 try have p16:=dF h16
 refine kH H (YM h16 O (YM h16 O (YC h16 O (Pf h16 O (Rm O (Sp 21 O ?_ ?_)))))) <;> clear H
 ·intro h21 a H
  try have kN:=dT h21
  exfalso;omega
 intro h21 a H
 try have kN:=dF h21
 refine kH H (YM h21 O (YM h21 O (YL bP h21 O (YC h21 O (Pf h21 O (Kz K3 (Cd O ?_ ?_))))))) <;> clear H K3
 ·intro ig a H
  try have p26:=dT ig
  exfalso;omega
 intro ig a H
 try have p26:=dF ig
 refine kI ?_;refine K2 _ _ ?_;clear K2;refine fT (fun _ K1=>?_);obtain ⟨lb,lo,rfl,gu⟩:=mO (k:=u) Jk (by rw [bG];omega);obtain ⟨_,_,e0,gv⟩:=mO (k:=vv) Jk (by rw [bG];omega)
 injection e0 with e0;injection e0 with e1 e2;subst e1;subst e2
 rw [show ((rz s).map fun x:Nat=>(x:Int))[u]'(by rw [bG];omega)=((eG s 0 u:Nat):Int) by rw [List.getElem_map,(fV.1 eu).2]] at gu;rw [show ((rz s).map fun x:Nat=>(x:Int))[vv]'(by rw [bG];omega)=((eG s 0 vv:Nat):Int) by rw [List.getElem_map,(fV.1 ev).2]] at gv;refine dI fF [[],[],[],[1,2],[1,2,3],[],[],[5,6],[5,6,7],ra 0 9,ra 0 10,ra 0 11,ra 0 12] [11,12] Z [.string s,.slice (some ⟨lb,lo,none⟩) ((eD s).length+1) bc,vi u,(aD lb (lo+u*1)),vi ((eG s 0 u:Nat):Int),.slice (some ⟨lb,lo,none⟩) ((eD s).length+1) bc,vi vv,(aD lb (lo+vv*1)),vi ((eG s 0 vv:Nat):Int),.string (s.extract (eG s 0 u) (eG s 0 vv)),.string (s.extract (eG s 0 u) (eG s 0 vv))] H (aF ?_ ?_ ?_ ?_ (aF ?_ ?_ ?_ ?_ (aF ?_ ?_ ?_ (gB O) (gN (gB O) fB)))) ?_
 ·exact aO
 ·exact aO
 ·exact aO
 ·intro av a w G1 _ ah hc hG HT hv;have H:=HT;clear ah;have H:=H.ak (hv 1 28 (hc 1 Y) O) O;have H:=H.ak (hv 2 29 (hc 2 Y) O) O;have Hb:=H.full;have H:=Hb;clear hc;refine bO bP aG u H wn O O O V O ?_;exact aI
 ·intro av a w G1 _ ah hc hG HT hv;have H:=HT;clear ah;have H:=H.ak (hv 3 30 (hc 3 Y) O) O;have Hb:=H.full;have H:=Hb;clear hc;refine kH H (Rg aG O (aK hG gu) ?_);exact aI
 ·exact aO
 ·exact aO
 ·intro av a w G1 _ ah hc hG HT hv;have H:=HT;clear ah;have H:=H.ak (hv 5 32 (hc 5 Y) O) O;have H:=H.ak (hv 6 33 (hc 6 Y) O) O;have Hb:=H.full;have H:=Hb;clear hc;refine bO bP aG vv H wn O O O V O ?_;exact aI
 ·intro av a w G1 _ ah hc hG HT hv;have H:=HT;clear ah;have H:=H.ak (hv 7 34 (hc 7 Y) O) O;have Hb:=H.full;have H:=Hb;clear hc;refine kH H (Rg aG O (aK hG gv) ?_);exact aI
 ·intro av a w G1 _ ah hc hG HT hv;have H:=HT;clear ah;have H:=H.ak (hv 0 27 (hc 0 Y) O) O;have H:=H.ak (hv 4 31 (hc 4 Y) O) O;have H:=H.ak (hv 8 35 (hc 8 Y) O) O;have Hb:=H.full;have H:=Hb;clear hc;refine Uc (eG s 0 u) (eG s 0 vv) iH H wn O O O O O abQ hav.2 O ?_;exact aI
 ·intro av a w G1 _ ah hc hG HT hv;have H:=HT;clear ah;have H:=H.ak (hv 9 36 (hc 9 Y) O) O;have Hb:=H.full;have H:=Hb;clear hc;refine s_call YU H wn O (XD _ _ H.ro _ (by rw [ByteArray.size_extract];omega)) rfl ?_;clear H;rintro v37 G37 a w rfl aah H;refine aB ⟨O,?_⟩;exact iN Z (fun _ _ _ _ _ h=>h) O O HT Hb hG hv aah (rfl) H
 clear H;intro a w G uX H hv;have H:=H.ak (hv 10 37 O O) O;clear hv;refine kH H (Ra O (Ra O ?_));clear H;intro a H;refine aB ⟨O,?_⟩;refine K1 _ _ ?_;clear K1;refine bN ?_;refine (bZ H results47 (.cons (aJ H O) (.cons (aJ H O) .nil)) ?_).1;exact H.rt O
section
def nu (xs:Array aj) (o:Nat):Option Int:=match xs[o]? with|some (.int .i64 n)=>some n|_=>none
def Jw (u:Option TypeDesc):Bool:=match u with|some (.int .i64)=>true|_=>false
structure FD (P:Program) (t:TypeId) (oN:List Nat):Prop where
 und:P.underlying t=some (.struct (P.fieldsOf t))
 held:P.stoodInHeld t=false
 guard:P.eqGuardType P.depth t=false
 uS:(P.fieldsOf t).toList.map (·.offset)=oN
 ok:(P.fieldsOf t).toList.all (fun f=>decide (f.name ≠ "_") && P.plainKey f.type && Jw (P.underlying f.type))=true
theorem TH {P:Program} {w:World} {d:Nat} {xs ys:Array aj}:∀ fs:List Field,fs.all (fun f=>decide (f.name ≠ "_") && P.plainKey f.type && Jw (P.underlying f.type))=true ->
  (fs.map (·.offset)).all (fun o=>(nu xs o).isSome && (nu ys o).isSome)=true->(Op.eqFields (d+1) xs ys fs).run P w=.ok ((fs.map (·.offset)).all fun o=>nu xs o == nu ys o) w
 | [],_,_=>by simp [Op.eqFields]
 | f :: fs,h1,h2=>by
  simp only [List.all_cons,gq,gG,gV] at h1 h2
  obtain ⟨⟨⟨hn,hp⟩,hi⟩,h1⟩:=h1
  obtain ⟨⟨hx,hy⟩,h2⟩:=h2
  have ih:=TH (w:=w) (d:=d) fs (by simpa using h1) h2
  unfold Jw at hi
  split at hi
  ·rename_i hu
   unfold nu at hx hy
   split at hx
   ·rename_i m hxm
    split at hy
    ·rename_i m2 hym
     have e1:nu xs f.offset=some m:=by unfold nu;rw [hxm]
     have e2:nu ys f.offset=some m2:=by unfold nu;rw [hym]
     simp only [Op.eqFields,hn,ne_eq,not_false_eq_true,if_true,bE,run_part_plain w hp hxm,run_part_plain w hp hym,gJ,run_equalIn_int w d f.type .i64 .i64 m m2 hu,gV,List.all_cons,e1,e2]
     by_cases e:m=m2
     ·subst e;simp [ih,List.all_map]
     ·simp [e]
    ·simp at hy
   ·simp at hx
  ·simp at hi
def jO (xs:Array aj) (o:Nat × Bool):Option (Int × Bool):=match xs[o.1]?,o.2 with|some (.int .i64 n),false=>some (n,false)|some (.bool b),true=>some (0,b)|_,_=>none
def rQ (u:Option TypeDesc) (b:Bool):Bool:=match u,b with|some (.int .i64),false=>true|some .bool,true=>true|_,_=>false
structure Lp (P:Program) (t:TypeId) (oN:List (Nat × Bool)):Prop where
 und:P.underlying t=some (.struct (P.fieldsOf t))
 held:P.stoodInHeld t=false
 guard:P.eqGuardType P.depth t=false
 uS:(P.fieldsOf t).toList.map (fun f=>(f.offset,rQ (P.underlying f.type) true))=oN
 ok:(P.fieldsOf t).toList.all (fun f=>decide (f.name ≠ "_") && P.plainKey f.type && rQ (P.underlying f.type) (rQ (P.underlying f.type) true))=true
theorem TI {P:Program} {w:World} {d:Nat} {xs ys:Array aj}:∀ fs:List Field,fs.all (fun f=>decide (f.name ≠ "_") && P.plainKey f.type && rQ (P.underlying f.type) (rQ (P.underlying f.type) true))=true ->
  (fs.map (fun f=>(f.offset,rQ (P.underlying f.type) true))).all (fun o=>(jO xs o).isSome && (jO ys o).isSome)=true->(Op.eqFields (d+1) xs ys fs).run P w=.ok ((fs.map (fun f=>(f.offset,rQ (P.underlying f.type) true))).all fun o=>jO xs o == jO ys o) w
 | [],_,_=>by simp [Op.eqFields]
 | f :: fs,h1,h2=>by
  simp only [List.all_cons,gq,gG,gV] at h1 h2
  obtain ⟨⟨⟨hn,hp⟩,hi⟩,h1⟩:=h1
  obtain ⟨⟨hx,hy⟩,h2⟩:=h2
  have ih:=TI (w:=w) (d:=d) fs (by simpa using h1) h2
  obtain ⟨kb,hkb⟩:∃ kb,kb=rQ (P.underlying f.type) true:=⟨_,O⟩
  rw [<- hkb] at hi hx hy
  cases kb with
  | false =>
   have hu:P.underlying f.type=some (.int .i64):=by clear hkb ih h1 h2 hx hy;unfold rQ at hi;split at hi <;> simp_all
   obtain ⟨m,hxm⟩:∃ m,xs[f.offset]?=some (.int .i64 m):=by clear hkb ih h1 h2 hi hy;unfold jO at hx;split at hx <;> simp_all
   obtain ⟨m2,hym⟩:∃ m,ys[f.offset]?=some (.int .i64 m):=by clear hkb ih h1 h2 hi hx;unfold jO at hy;split at hy <;> simp_all
   have e1:jO xs (f.offset,false)=some (m,false):=by unfold jO;rw [hxm]
   have e2:jO ys (f.offset,false)=some (m2,false):=by unfold jO;rw [hym]
   simp only [Op.eqFields,hn,ne_eq,not_false_eq_true,if_true,bE,run_part_plain w hp hxm,run_part_plain w hp hym,gJ,run_equalIn_int w d f.type .i64 .i64 m m2 hu,gV,List.all_cons,<- hkb,e1,e2]
   by_cases e:m=m2
   ·subst e;simp [ih,List.all_map]
   ·simp [e]
  | true =>
   have hu:P.underlying f.type=some .bool:=by clear hkb ih h1 h2 hx hy;unfold rQ at hi;split at hi <;> simp_all
   obtain ⟨m,hxm⟩:∃ m,xs[f.offset]?=some (.bool m):=by clear hkb ih h1 h2 hi hy;unfold jO at hx;split at hx <;> simp_all
   obtain ⟨m2,hym⟩:∃ m,ys[f.offset]?=some (.bool m):=by clear hkb ih h1 h2 hi hx;unfold jO at hy;split at hy <;> simp_all
   have e1:jO xs (f.offset,true)=some (0,m):=by unfold jO;rw [hxm]
   have e2:jO ys (f.offset,true)=some (0,m2):=by unfold jO;rw [hym]
   simp only [Op.eqFields,hn,ne_eq,not_false_eq_true,if_true,bE,run_part_plain w hp hxm,run_part_plain w hp hym,gJ,run_equalIn_bool' w d f.type m m2 hu,gV,List.all_cons,<- hkb,e1,e2]
   by_cases e:m=m2
   ·subst e;simp [ih,List.all_map]
   ·simp [e]
section
variable {N:Nat} {D:List Deferred} {w0:World} {F:Nat->Prop} {G0 G:GH} {L:List (Nat × Obj)} {T:List (Nat × aj)}
variable {r:Option Nat} {P:Program} {ops:Array Oper} {Q:Exit->Act->World->Prop} {rest:List Oper} {a:Act} {w:World}
variable {d:Nat} {ty:TypeId} {pos:String} {aC:Array Edge} {g:Option (Nat × Bool)}
theorem TT {t yt:TypeId} {oN:List Nat} (he:FD P t oN) {x y:Operand} {xs ys:Array aj} (H:St N D w0 F G0 G L T a w) (hw:Region.wanted ⟨some d,.binOp .eql t x y yt,ty,pos,aC,g⟩ (yielded ops a.tmps)=true) (hx:ev T x=some (.agg xs)) (hy:ev T y=some (.agg ys))
  (hi:oN.all (fun o=>(nu xs o).isSome && (nu ys o).isSome)=true) (hd:Nat.blt d N=true)
  (k:∀ a',St N D w0 F G0 G L ((d,.bool (oN.all fun o=>nu xs o == nu ys o)) :: T) a' w->WL r P ops Q rest a' w):WL r P ops Q (⟨some d,.binOp .eql t x y yt,ty,pos,aC,g⟩ :: rest) a w:=by
 refine bX (v:=.bool (oN.all fun o=>nu xs o == nu ys o)) (w':=w) hw O ?_ (k _ (H.put hd _ H.hp))
 have h1:=TH (P:=P) (w:=w) (d:=9998) (xs:=xs) (ys:=ys) _ he.ok (by rw [he.uS];exact hi)
 rw [he.uS] at h1
 simp only [execOp,H.ev hx,H.ev hy,bE,run_eqGuard_agg w .eql t x y xs ys he.guard,gJ,run_eql_struct,run_equalIn_struct w 9999 t xs ys he.und he.held,h1]
 rfl
theorem TY {t yt:TypeId} {x y:Operand} {p q:Int} (z:Int) (H:St N D w0 F G0 G L T a w) (hw:Region.wanted ⟨some d,.binOp .quo t x y yt,ty,pos,aC,g⟩ (yielded ops a.tmps)=true) (hx:ev T x=some (.int .i64 p)) (hy:ev T y=some (.int .i64 q)) (hq:¬ q=0) (hz:p.tdiv q=z) (h1:-9223372036854775808<=z) (h2:z < 9223372036854775808) (hd:Nat.blt d N=true)
  (k:∀ a',St N D w0 F G0 G L ((d,.int .i64 z) :: T) a' w->WL r P ops Q rest a' w):WL r P ops Q (⟨some d,.binOp .quo t x y yt,ty,pos,aC,g⟩ :: rest) a w:=by
 subst hz
 refine bX (v:=.int .i64 (p.tdiv q)) (w':=w) hw O ?_ (k _ (H.put hd _ H.hp))
 simp [execOp,H.ev hx,H.ev hy,bE,eqGuard,binOp,Op.intDiv,hq,tQ h1 h2]
theorem adD {op:BinOp} {t yt:TypeId} {oN:List (Nat × Bool)} (ho:op=.eql∨op=.neq) (he:Lp P t oN) {x y:Operand} {xs ys:Array aj} (H:St N D w0 F G0 G L T a w) (hw:Region.wanted ⟨some d,.binOp op t x y yt,ty,pos,aC,g⟩ (yielded ops a.tmps)=true) (hx:ev T x=some (.agg xs)) (hy:ev T y=some (.agg ys))
  (hi:oN.all (fun o=>(jO xs o).isSome && (jO ys o).isSome)=true) (hd:Nat.blt d N=true)
  (k:∀ a',St N D w0 F G0 G L ((d,.bool (if op=.eql then oN.all fun o=>jO xs o == jO ys o else !(oN.all fun o=>jO xs o == jO ys o))) :: T) a' w->WL r P ops Q rest a' w):WL r P ops Q (⟨some d,.binOp op t x y yt,ty,pos,aC,g⟩ :: rest) a w:=by
 have h1:=TI (P:=P) (w:=w) (d:=9998) (xs:=xs) (ys:=ys) _ he.ok (by rw [he.uS];exact hi)
 rw [he.uS] at h1
 rcases ho with rfl|rfl
 ·refine bX (v:=_) (w':=w) hw O ?_ (k _ (H.put hd _ H.hp))
  simp only [execOp,H.ev hx,H.ev hy,bE,run_eqGuard_agg w .eql t x y xs ys he.guard,gJ,run_eql_struct,run_equalIn_struct w 9999 t xs ys he.und he.held,h1]
  rfl
 ·refine bX (v:=_) (w':=w) hw O ?_ (k _ (H.put hd _ H.hp))
  simp only [execOp,H.ev hx,H.ev hy,bE,run_eqGuard_agg w .neq t x y xs ys he.guard,gJ,run_neq_struct,run_equalIn_struct w 9999 t xs ys he.und he.held,h1]
  rfl
end
end
section
section
variable {N:Nat} {D:List Deferred} {w0:World} {F:Nat->Prop} {G0 G:GH} {L:OL} {T:List (Nat × aj)}
variable {r:Option Nat} {P:Program} {ops:Array Oper} {Q:Exit->Act->World->Prop} {rest:List Oper} {a:Act} {w:World}
variable {d:Nat} {ty:TypeId} {pos:String} {aC:Array Edge} {g:Option (Nat × Bool)}
theorem adJ {t:TypeId} (H:St N D w0 F G0 G L T a w) (hw:Region.wanted ⟨some d,.makeMap t none,ty,pos,aC,g⟩ (yielded ops a.tmps)=true) (hd:Nat.blt d N=true)
  (k:∀ b a' w',w0.heap.size<=b->St N D w0 F G0 G ((b,.map #[] 0) :: L) ((d,.map (some b)) :: T) a' w'->WL r P ops Q rest a' w'):WL r P ops Q (⟨some d,.makeMap t none,ty,pos,aC,g⟩ :: rest) a w:=by
 refine bX (v:=.map (some w.heap.size)) (w':=w.alloc (.map #[] 0)) hw O ?_ (k _ _ _ H.hp.size (H.put hd _ (H.hp.alloc _)))
 simp [execOp,Instr.makeMap,newObj,Sem.run,bE]
def tV (an:Option (Nat × aj)) (zv:aj):aj × Bool:=match an with|some (_,v)=>(v,true)|none=>(zv,false)
theorem adI {t kt et:TypeId} {kd:TypeDesc} {x y:Operand} {b i clock:Nat} {es:Array MapEntry} {ky zv:aj} (an:Option (Nat × aj)) (hm:P.underlying t=some (.map kt et)) (hk:P.underlying kt=some kd) (hz:(P.info? et).map (fun i=>i.zero)=some (some zv)) (H:St N D w0 F G0 G L T a w)
  (hw:Region.wanted ⟨some d,.lookup t x y true,ty,pos,aC,g⟩ (yielded ops a.tmps)=true) (hx:ev T x=some (.map (some b))) (hy:ev T y=some ky) (hi:L[i]?=some (b,.map es clock)) (hky:MapKept.IsKey kd ky) (hf:Instr.findNow kd ky es.toList 0=some an) (hd:Nat.blt d N=true)
  (k:∀ a',St N D w0 F G0 G L ((d,.tuple #[(tV an zv).1,.bool (tV an zv).2]) :: T) a' w->WL r P ops Q rest a' w):WL r P ops Q (⟨some d,.lookup t x y true,ty,pos,aC,g⟩ :: rest) a w:=by
 have hb:w.heap[b]?=some (.map es clock):=H.hp.own _ (iU hi)
 obtain ⟨inf,hi1,hi2⟩:=kR.1 hz
 refine bX (v:=.tuple #[(tV an zv).1,.bool (tV an zv).2]) (w':=w) hw O ?_ (k _ (H.put hd _ H.hp))
 have h1:=MapKept.run_checkKey (w:=w) hk hky es.isEmpty 9999
 have h2:=MapKept.run_findKey (w:=w) hk hf
 cases an with
 | none=>simp [execOp,Instr.lookup,H.ev hx,H.ev hy,bE,jK hm,MapKept.run_getObj_map hb,h1,h2,Result.andThen,zeroValue,wR hi1,hi2,tV]
 | some q=>simp [execOp,Instr.lookup,H.ev hx,H.ev hy,bE,jK hm,MapKept.run_getObj_map hb,h1,h2,Result.andThen,tV]
theorem afx {w:World} {b clock:Nat} {es:Array MapEntry} {o:Obj} (h:w.heap[b]?=some (.map es clock)):mZ b o w { w with heap:=w.heap.setIfInBounds b o }:=by
 have hlt:b < w.heap.size:=(Array.getElem?_eq_some_iff.1 h).1
 refine ⟨O,O,O,by simp,by simp [hlt],fun k hk=>?_⟩
 simp only
 rw [Array.getElem?_setIfInBounds_ne (Ne.symm hk)]
theorem adK {t kt et:TypeId} {kd:TypeDesc} {x y z:Operand} {b i clock:Nat} {es:Array MapEntry} {ky v:aj} (hm:P.underlying t=some (.map kt et)) (hk:P.underlying kt=some kd) (H:St N D w0 F G0 G L T a w)
  (hw:Region.wanted ⟨none,.mapUpdate t x y z,ty,pos,aC,g⟩ (yielded ops a.tmps)=true) (hx:ev T x=some (.map (some b))) (hy:ev T y=some ky) (hzv:ev T z=some v) (hi:L[i]?=some (b,.map es clock)) (hky:MapKept.IsKey kd ky) (hf:Instr.findNow kd ky es.toList 0=some none)
  (k:∀ w',St N D w0 F G0 G (L.set i (b,.map (es.push ⟨ky,v,clock⟩) (clock+1))) T a w'->WL r P ops Q rest a w'):WL r P ops Q (⟨none,.mapUpdate t x y z,ty,pos,aC,g⟩ :: rest) a w:=by
 have hb:w.heap[b]?=some (.map es clock):=H.hp.own _ (iU hi)
 have h1:=MapKept.run_checkKey (w:=w) hk hky false 9999
 have h2:=MapKept.run_findKey (w:=w) hk hf
 refine Vm (w':={ w with heap:=w.heap.setIfInBounds b (.map (es.push ⟨ky,v,clock⟩) (clock+1)) }) hw O ?_ (k _ (H.move (H.hp.upd hi (afx hb))))
 simp [execOp,Instr.mapUpdate,H.ev hx,H.ev hy,H.ev hzv,bE,jK hm,MapKept.run_getObj_map hb,h1,h2,MapKept.run_setObj_map _ hb,Result.andThen]
theorem adG {x:Operand} {t kt et:TypeId} {b i clock:Nat} {es:Array MapEntry} (hs:P.underlying t=some (.map kt et)) (H:St N D w0 F G0 G L T a w) (hw:Region.wanted ⟨some d,.call { callee:=.builtin .len,args:=#[x],argTypes:=#[t] },ty,pos,aC,g⟩ (yielded ops a.tmps)=true) (hx:ev T x=some (.map (some b))) (hi:L[i]?=some (b,.map es clock)) (hd:Nat.blt d N=true)
  (k:∀ a',St N D w0 F G0 G L ((d,.int .i64 es.size) :: T) a' w->WL r P ops Q rest a' w):WL r P ops Q (⟨some d,.call { callee:=.builtin .len,args:=#[x],argTypes:=#[t] },ty,pos,aC,g⟩ :: rest) a w:=by
 have hb:w.heap[b]?=some (.map es clock):=H.hp.own _ (iU hi)
 exact bX (v:=.int .i64 es.size) (w':=w) hw O (by simp [execOp,resolve,invoke,builtin,Builtin.len_,H.ev hx,bE,jK hs,MapKept.run_getObj_map hb,goInt,Result.andThen]) (k _ (H.put hd _ H.hp))
theorem adN {t yt:TypeId} {x y:Operand} {p q:ByteArray} (H:St N D w0 F G0 G L T a w) (hw:Region.wanted ⟨some d,.binOp .neq t x y yt,ty,pos,aC,g⟩ (yielded ops a.tmps)=true) (hx:ev T x=some (.string p)) (hy:ev T y=some (.string q)) (hd:Nat.blt d N=true)
  (k:∀ a',St N D w0 F G0 G L ((d,.bool (!(p.toList == q.toList))) :: T) a' w->WL r P ops Q rest a' w):WL r P ops Q (⟨some d,.binOp .neq t x y yt,ty,pos,aC,g⟩ :: rest) a w:=by
 refine bX (v:=.bool (!(p.toList == q.toList))) (w':=w) hw O ?_ (k _ (H.put hd _ H.hp))
 simp [execOp,H.ev hx,H.ev hy,bE,eqGuard,binOp,Op.stringOp]
theorem Hp.SI (h:Hp w0 F G0 G L w) {b o:Nat} {c:Array aj} {e:TypeId} {fz:Nat × Nat} {v:aj} (hm:(b,Obj.cells c e fz)∈L) (hv:c[o]?=some v):w.cell? ⟨b,o,none⟩=some v:=by
 have:=h.own _ hm
 simp only [World.cell?,this]
 exact hv
end
end
end Go.Proofs.YtomebajfpcjoeaaDoor
