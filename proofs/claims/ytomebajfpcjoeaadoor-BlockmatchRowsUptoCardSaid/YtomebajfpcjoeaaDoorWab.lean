/-
  What the claim stands on, part 2: Utf2 Mk Bst Spn Cls Mac Val U8 Rg Gcl Pts Fnd Wrd Ro.
-/
import Derived.Test.YtomebajfpcjoeaaDoorWaa
import Derived.Laws.MakeOwn
import Derived.Test.YtomebajfpcjoeaaDoorProg
import Derived.Test.YtomebajfpcjoeaaDoorChecked
import Derived.KernelRfl
import Derived.Shelf.Unicode.ValidAny
namespace Go.Proofs.YtomebajfpcjoeaaDoor
set_option linter.all false
open Go.Proofs.Tryd
open Go.RowKit
theorem qz {s:ByteArray} {i:Nat} (h:gK s i < 0) (hi:i < s.size):(fB s i).2.2=true∧gK s (i+(fB s i).2.1) < 0:=by
 rw [gK,dif_pos hi] at h
 split at h
 ·rename_i h2;exact ⟨h2,h⟩
 omega
theorem xP {s:ByteArray} {i:Nat} (h:gK s i < 0) (hi:i < s.size):0 < (fB s i).2.1∧i+(fB s i).2.1<=s.size:=by
 have h1:=(qz h hi).1;have h2:=(Am s i hi).2 h1
 omega
theorem R9 {s:ByteArray}:∀ (q i:Nat),s.size - i<=q->gK s i < 0->Go.Lib.validD (s.data.toList.drop i)=true
 | 0,i,hq,_=>by
  rw [List.drop_eq_nil_of_le (by have:=Go.Lib.size_eq s;omega)];rfl
 | q+1,i,hq,h=>by
  by_cases hi:i < s.size
  ·have hne:s.data.toList.drop i≠[]:=by
    intro e;have:=jD List.length e;rw [List.length_drop,<- Go.Lib.size_eq] at this
    simp at this;omega
   have hs:=qz h hi;have hd:=xP h hi;have he:=wu hi hs.1;rw [Go.Lib.validD_step _ hne,Go.Lib.decodeL_drop,aJ he.2.1,List.drop_drop,he.1];exact R9 q (i+(fB s i).2.1) V hs.2
  rw [List.drop_eq_nil_of_le (by have:=Go.Lib.size_eq s;omega)];rfl
theorem Dy {s:ByteArray} {f i:Nat} (hf:s.size - i<=f) (hi:i < s.size):jP s f i=(i,(Utf8.decode s i).1) :: jP s (f - 1) (i+(Utf8.decode s i).2):=by
 match f,hf with
 | 0,hf=>omega
 | f+1,_=>rw [jP,aM hi];rfl
theorem zI {s:ByteArray} {f i:Nat} (hi:¬ i < s.size):jP s f i=[]:=by
 match f with
 | 0=>rfl
 | f+1=>rw [jP,aJ hi]
def rM (s:ByteArray) (i:Nat):Bool:=decide (¬ (128<=gy s i∧gy s i<=191))
theorem WJ {s:ByteArray} {i n:Nat} (h0:rM s i=true) (h1:∀ j,0 < j->j < n->rM s (i+j)=false) (hn:0 < n):(List.range' i n).filter (rM s)=[i]:=by
 obtain ⟨k,rfl⟩:∃ k,n=k+1:=⟨n - 1,V⟩;rw [List.range'_succ,List.filter_cons,aM h0]
 have:(List.range' (i+1) k).filter (rM s)=[]:=by
  rw [List.filter_eq_nil_iff];intro a ha;rw [List.mem_range'_1] at ha;have:=h1 (a - i) V V;rw [show i+(a - i)=a by omega] at this
  simp [this]
 rw [this]
theorem Mr {s:ByteArray}:∀ (q i f:Nat),s.size - i<=q->s.size - i<=f->gK s i < 0->i<=s.size->(List.range' i (s.size - i)).filter (rM s)=(jP s f i).map (·.1)
 | 0,i,f,hq,_,_,_=>by rw [zI V,show s.size - i=0 by omega];rfl
 | q+1,i,f,hq,hf,h,hle=>by
  by_cases hi:i < s.size
  ·have hs:=qz h hi;have hd:=xP h hi;have he:=wu hi hs.1;obtain ⟨n,hn⟩:∃ n,n=(fB s i).2.1:=⟨_,O⟩;rw [<- hn] at hs hd he;rw [Dy hf hi,iT,he.1,<- Mr q (i+n) (f - 1) V V hs.2 V];rw [show s.size - i=n+(s.size - (i+n)) by omega,<- List.range'_append_1,List.filter_append]
   rw [WJ (by simp only [rM,dH];exact he.2.2.2) (fun j h1 h2=>by
    have:=he.2.2.1 j h1 h2
    simp only [rM,pR,Af];exact this.2) hd.1]
   rfl
  rw [zI V,show s.size - i=0 by omega];rfl
def Fq (s:ByteArray):List Nat:=(gD s).map (·.1)++[s.size]
def uZ (s:ByteArray):List Nat:=(List.range s.size).filter (rM s)++[s.size]
theorem Mq {s:ByteArray} (hv:fJ s=true):uZ s=Fq s:=by
 have hf:gK s 0 < 0:=by simpa [fJ] using hv
 rw [uZ,Fq,gD,<- Mr _ 0 s.size (bD _) V hf (dU _),List.range_eq_range']
 rfl
theorem Wm (r:Nat):(Utf8.encode (r:Int)).data.toList=Go.Lib.encodeRune (r:Int):=by
 have big:∀ x:Nat,(x:Int).toNat=x:=fun x=>Int.toNat_natCast x
 unfold Utf8.encode Go.Lib.encodeRune
 simp only
 by_cases c1:r<=127
 ·have hv:Utf8.valid (r:Int)=true:=by simp only [Utf8.valid,Bool.or_eq_true,gT,dH];omega
  rw [aM hv,Go.Lib.encodeRuneZ_one V V,big,dJ]
  rfl
 by_cases c2:r<=2047
 ·have hv:Utf8.valid (r:Int)=true:=by simp only [Utf8.valid,Bool.or_eq_true,gT,dH];omega
  rw [aM hv,Go.Lib.encodeRuneZ_two V V,big,aX,dJ]
  simp only [iT,ru]
  rw [show (192+(r:Int) / 64).toNat=192+r / 64 by omega,show (128+(r:Int) % 64).toNat=128+r % 64 by omega]
 by_cases c3:r<=65535∧¬ (55296<=r∧r<=57343)
 ·have hv:Utf8.valid (r:Int)=true:=by simp only [Utf8.valid,Bool.or_eq_true,gT,dH];omega
  rw [aM hv,Go.Lib.encodeRuneZ_three V,big,aX,aX,dJ]
  simp only [iT,ru]
  rw [show (224+(r:Int) / 4096).toNat=224+r / 4096 by omega,show (128+(r:Int) / 64 % 64).toNat=128+r / 64 % 64 by omega,show (128+(r:Int) % 64).toNat=128+r % 64 by omega]
 by_cases c4:65536<=r∧r<=1114111
 ·have hv:Utf8.valid (r:Int)=true:=by simp only [Utf8.valid,Bool.or_eq_true,gT,dH];omega
  rw [aM hv,Go.Lib.encodeRuneZ_four V V,big,aX,aX,aX]
  simp only [iT,ru]
  rw [show (240+(r:Int) / 262144).toNat=240+r / 262144 by omega,show (128+(r:Int) / 4096 % 64).toNat=128+r / 4096 % 64 by omega,show (128+(r:Int) / 64 % 64).toNat=128+r / 64 % 64 by omega,show (128+(r:Int) % 64).toNat=128+r % 64 by omega]
 have hv:¬ Utf8.valid (r:Int)=true:=by simp only [Utf8.valid,Bool.or_eq_true,gT,dH];omega
 rw [aJ hv,Go.Lib.encodeRuneZ_bad V]
 decide
theorem Wj {s:ByteArray} {i:Nat} (h:gK s i < 0) (hi:i < s.size):(Utf8.encode ((Utf8.decode s i).1:Int)).data.toList=(s.data.toList.drop i).take (Utf8.decode s i).2:=by
 have hne:s.data.toList.drop i≠[]:=by
  intro e;have:=jD List.length e;rw [List.length_drop,<- Go.Lib.size_eq] at this
  simp at this;omega
 have he:=wu hi (qz h hi).1;have h1:=Go.Lib.encode_decode _ hne (by rw [Go.Lib.decodeL_drop];exact he.2.1);rw [Go.Lib.decodeL_drop] at h1;rw [<- h1,Wm]
theorem Qy:∀ (ns:List Int) (b:ByteArray),(ns.foldl (fun r n=>r++Utf8.encode n) b).data.toList=b.data.toList++ns.flatMap fun n=>(Utf8.encode n).data.toList
 | [],b=>by simp
 | n :: ns,b=>by
  rw [List.foldl_cons,Qy ns]
  simp [ByteArray.data_append]
theorem aax (ns:List Int):(runesBytes ns).data.toList=ns.flatMap fun n=>(Utf8.encode n).data.toList:=by
 rw [runesBytes,Qy];rfl
def gI (s:ByteArray):Nat->Nat->Nat
 | i,0=>i
 | i,j+1=>if i < s.size then gI s (i+(Utf8.decode s i).2) j else i
theorem Ad {s:ByteArray}:∀ (j i:Nat),gK s i < 0->i<=s.size->i<=gI s i j∧gI s i j<=s.size
 | 0,i,_,h=>⟨bD _,h⟩
 | j+1,i,hf,h=>by
  rw [gI]
  split
  ·rename_i hi
   have hd:=xP hf hi;have he:=wu hi (qz hf hi).1;have:=Ad j (i+(Utf8.decode s i).2) (by rw [he.1];exact (qz hf hi).2) V
   omega
  omega
theorem Mi {s:ByteArray}:∀ (j i f:Nat),s.size - i<=f->gK s i < 0->i<=s.size->j<=(jP s f i).length->((jP s f i).map (·.1)++[s.size])[j]?=some (gI s i j)
 | j,i,f,hf,h,hle,hj=>by
  by_cases hi:i < s.size
  ·have hd:=xP h hi;have he:=wu hi (qz h hi).1;rw [Dy hf hi] at hj |-
   cases j with
   | zero=>rfl
   | succ j =>
    rw [gI,aM hi,iT,nQ,List.getElem?_cons_succ];exact Mi j (i+(Utf8.decode s i).2) (f - 1) V (by rw [he.1];exact (qz h hi).2) V (by simpa using hj)
  rw [zI hi] at hj |-
  simp at hj;subst hj
  have:i=s.size:=by omega
  simp [gI,this]
theorem R6 {s:ByteArray}:∀ (j i f:Nat),s.size - i<=f->gK s i < 0->i<=s.size->(((jP s f i).take j).map fun x=>(x.2:Int)).flatMap (fun n=>(Utf8.encode n).data.toList)=(s.data.toList.drop i).take (gI s i j - i)
 | 0,i,f,_,_,_=>by simp [gI]
 | j+1,i,f,hf,h,hle=>by
  by_cases hi:i < s.size
  ·have hd:=xP h hi;have he:=wu hi (qz h hi).1
   have hs2:gK s (i+(Utf8.decode s i).2) < 0:=by rw [he.1];exact (qz h hi).2
   have ha:=Ad j (i+(Utf8.decode s i).2) hs2 V;rw [Dy hf hi,List.take_succ_cons,iT,List.flatMap_cons,Wj h hi,R6 j (i+(Utf8.decode s i).2) (f - 1) V hs2 V,gI,aM hi,<- List.drop_drop,<- List.take_add]
   congr 1;omega
  rw [zI hi,gI,aJ hi];simp
theorem Qk {s:ByteArray}:∀ (u i f:Nat),s.size - i<=f->gK s i < 0->i<=s.size->∃ g,s.size - gI s i u<=g∧(jP s f i).drop u=jP s g (gI s i u)
 | 0,i,f,hf,_,_=>⟨f,hf,O⟩
 | u+1,i,f,hf,h,hle=>by
  by_cases hi:i < s.size
  ·have hd:=xP h hi;have he:=wu hi (qz h hi).1;rw [Dy hf hi,gI,aM hi,List.drop_succ_cons];exact Qk u (i+(Utf8.decode s i).2) (f - 1) V (by rw [he.1];exact (qz h hi).2) V
  rw [zI hi,gI,aJ hi];exact ⟨0,V,by simp [jP]⟩
theorem GI {s:ByteArray}:∀ (u i:Nat),gK s i < 0->i<=s.size->gK s (gI s i u) < 0
 | 0,i,h,_=>h
 | u+1,i,h,hle=>by
  rw [gI];split
  ·rename_i hi
   have hd:=xP h hi;have he:=wu hi (qz h hi).1;exact GI u _ (by rw [he.1];exact (qz h hi).2) V
  exact h
theorem GD {s:ByteArray}:∀ (u i v:Nat),gI s i (u+v)=gI s (gI s i u) v
 | 0,i,v=>by rw [fC];rfl
 | u+1,i,v=>by
  rw [show u+1+v=(u+v)+1 by omega,gI,gI]
  split
  ·exact GD u _ v
  rename_i hi
  cases v with
  | zero=>rfl
  | succ v=>rw [gI,aJ hi]
theorem Wv (s:ByteArray) (a b:Nat):(s.extract a b).data.toList=(s.data.toList.drop a).take (b - a):=by
 simp [ByteArray.data_extract]
theorem acE {s:ByteArray} (hv:fJ s=true) {u v:Nat} (huv:u<=v):runesBytes ((((gD s).map fun x=>(x.2:Int)).drop u).take (v - u))=s.extract (gI s 0 u) (gI s 0 v):=by
 have hf:gK s 0 < 0:=by simpa [fJ] using hv
 obtain ⟨g,hg,e⟩:=Qk u 0 s.size V hf (dU _);have ha:=Ad u 0 hf (dU _);have hok:=GI u 0 hf (dU _);have h1:=R6 (v - u) (gI s 0 u) g hg hok ha.2;rw [<- GD,show u+(v - u)=v by omega] at h1
 have h2:(runesBytes ((((gD s).map fun x=>(x.2:Int)).drop u).take (v - u))).data.toList=(s.extract (gI s 0 u) (gI s 0 v)).data.toList:=by
  rw [aax,<- List.map_drop,<- List.map_take,gD,e,h1,Wv]
 exact ByteArray.ext (Array.ext' h2)
theorem P6 {s:ByteArray} (hv:fJ s=true) {u:Nat} (hu:u<=(gD s).length):(Fq s)[u]?=some (gI s 0 u):=by
 have hf:gK s 0 < 0:=by simpa [fJ] using hv
 exact Mi u 0 s.size V hf (dU _) hu
section
section
variable {N:Nat} {D:List Deferred} {w0:World} {F:Nat->Prop} {G0 G:GH} {L Li Lo:OL} {T:List (Nat × av)}
variable {r:Option Nat} {P:Program} {ops:Array Oper} {Q:Exit->Act->World->Prop} {rest:List Oper} {a:Act} {w:World}
variable {d:Nat} {ty:TypeId} {pos:String} {aG:Array Edge} {g:Option (Nat × Bool)}
theorem aaN {x y z:Operand} {t t' t'':TypeId} {kd:IntKind} {p q s:Int} (H:St N D w0 F G0 G L T a w) (hw:Region.wanted ⟨some d,.call { callee:=.builtin .max,args:=#[x,y,z],argTypes:=#[t,t',t''] },ty,pos,aG,g⟩ (yielded ops a.tmps)=true) (hx:ev T x=some (.int kd p)) (hy:ev T y=some (.int kd q)) (hz:ev T z=some (.int kd s)) (hd:Nat.blt d N=true)
  (k:∀ a',St N D w0 F G0 G L ((d,.int kd (max (max p q) s)) :: T) a' w->WL r P ops Q rest a' w):WL r P ops Q (⟨some d,.call { callee:=.builtin .max,args:=#[x,y,z],argTypes:=#[t,t',t''] },ty,pos,aG,g⟩ :: rest) a w:=by
 refine dQ (v:=.int kd (max (max p q) s)) (w':=w) hw O ?_ (k _ (H.put hd _ H.hp))
 have e:∀ p q:Int,(if q > p then q else p)=max p q:=by intro p q;omega
 simp [execOp,resolve,invoke,builtin,Builtin.max_,Builtin.max2,H.ev hx,H.ev hy,H.ev hz,bZ,e]
theorem Zw (z:av) (n:Nat):madeCells #[z] n=(List.replicate n z).toArray:=by
 apply Array.ext
 ·simp [madeCells]
 ·intro i h1 h2
  simp [madeCells,Nat.mod_one]
theorem oq {t e:TypeId} {z:av} {bytes:Nat} {x y:Operand} {p:Int} (n:Nat) (hs:P.underlying t=some (.slice e)) (ht:Ty P e 1 bytes [z] false) (H:St N D w0 F G0 G L T a w) (hw:Region.wanted ⟨some d,.makeSlice t x y,ty,pos,aG,g⟩ (yielded ops a.tmps)=true)
  (hx:ev T x=some (.int .i64 p)) (hy:ev T y=some (.int .i64 p)) (hp:p=(n:Int)) (hb:bytes*n<=281474976710656) (h63:n<=9223372036854775807) (hd:Nat.blt d N=true)
  (k:∀ b a' w',w0.heap.size<=b->St N D w0 F G0 G ((b,.cells (List.replicate n z).toArray e (0,0)) :: L) ((d,.slice (some ⟨b,0,none⟩) n n) :: T) a' w'->WL r P ops Q rest a' w'):WL r P ops Q (⟨some d,.makeSlice t x y,ty,pos,aG,g⟩ :: rest) a w:=by
 obtain ⟨i,z0,hi,hi1,hi2,hi3,hi4⟩:=ht.parts
 subst hp
 have hz:z0.cells=#[z]:=by rw [hi4]
 have hb':(i.bytes:Int)*(n:Int)<=281474976710656:=by
  rw [hi2,<- Int.natCast_mul];omega
 have hr:=run_make (P:=P) w t e i z0 hs hi hi3 .i64 .i64 (n:Int) (n:Int) V (Int.le_refl _) hb' V
 rw [hi1,hz,Nat.mul_one,Int.toNat_natCast,Zw] at hr
 refine dQ (v:=.slice (some ⟨w.heap.size,0,none⟩) n n) (w':=w.alloc (.cells (List.replicate n z).toArray e (0,0))) hw O ?_ (k _ _ _ H.hp.size (H.put hd _ (H.hp.alloc _)))
 simp only [execOp,H.ev hx,H.ev hy,bZ,hr,iX,kJ]
theorem mU {t e:TypeId} {n sz bytes:Nat} {zero:List av} {agg:Bool} (hs:P.underlying t=some (.array n e)) (ht:Ty P e sz bytes zero agg) {x y:Operand} {b o:Nat} {kd:IntKind} {z:Int} (i:Nat) (H:St N D w0 F G0 G L T a w) (hw:Region.wanted ⟨some d,.indexAddr t x y,ty,pos,aG,g⟩ (yielded ops a.tmps)=true)
  (hx:ev T x=some (aH b o)) (hy:ev T y=some (.int kd z)) (hz:z=(i:Int)) (hn:i < n) (hd:Nat.blt d N=true)
  (k:∀ a',St N D w0 F G0 G L ((d,(aH b (o+i*sz))) :: T) a' w->WL r P ops Q rest a' w):WL r P ops Q (⟨some d,.indexAddr t x y,ty,pos,aG,g⟩ :: rest) a w:=by
 subst hz
 refine dQ (v:=(aH b (o+i*sz))) (w':=w) hw O ?_ (k _ (H.put hd _ H.hp))
 have hr:(0:Int)<=i∧(i:Int) < (n:Int):=by omega
 simp only [execOp,Instr.indexAt,asIntOf,bZ,H.ev hx,H.ev hy,lq hs,iX,kJ,Instr.sureAddr,aM hr,ht.uK,add_lit,Int.toNat_natCast]
theorem QB {x:Operand} {t e:TypeId} {A:Option Addr} {n c:Nat} (hs:P.underlying t=some (.slice e)) (H:St N D w0 F G0 G L T a w) (hw:Region.wanted ⟨some d,.call { callee:=.builtin .cap,args:=#[x],argTypes:=#[t] },ty,pos,aG,g⟩ (yielded ops a.tmps)=true) (hx:ev T x=some (.slice A n c)) (hd:Nat.blt d N=true)
  (k:∀ a',St N D w0 F G0 G L ((d,.int .i64 c) :: T) a' w->WL r P ops Q rest a' w):WL r P ops Q (⟨some d,.call { callee:=.builtin .cap,args:=#[x],argTypes:=#[t] },ty,pos,aG,g⟩ :: rest) a w :=
 dQ (v:=.int .i64 c) (w':=w) hw O (by simp [execOp,resolve,invoke,builtin,Builtin.cap_,H.ev hx,bZ,lq hs,goInt]) (k _ (H.put hd _ H.hp))
theorem QI {t e:TypeId} {sz bytes:Nat} {zero:List av} {agg:Bool} (hs:P.underlying t=some (.slice e)) (ht:Ty P e sz bytes zero agg) {x z:Operand} {A:Option Addr} {n c:Nat} (hi:Nat) {q:Int} (H:St N D w0 F G0 G L T a w)
  (hw:Region.wanted ⟨some d,.slice t x none (some z) none,ty,pos,aG,g⟩ (yielded ops a.tmps)=true) (hx:ev T x=some (.slice A n c)) (hz:ev T z=some (.int .i64 q)) (hq:q=(hi:Int)) (h2:hi<=c) (hd:Nat.blt d N=true)
  (k:∀ a',St N D w0 F G0 G L ((d,.slice A hi c) :: T) a' w->WL r P ops Q rest a' w):WL r P ops Q (⟨some d,.slice t x none (some z) none,ty,pos,aG,g⟩ :: rest) a w:=by
 subst hq
 refine dQ (v:=.slice A hi c) (w':=w) hw O ?_ (k _ (H.put hd _ H.hp))
 simp [execOp,H.ev hx,H.ev hz,Instr.sliceAt,Instr.slice,Instr.sliceBounds,Instr.sliceBound,bZ,lq hs,ht.uK,asIntOf,h2]
 intro _
 cases A with
 | none=>rfl
 | some p=>simp [Addr.add]
theorem aaq {w:World} (t u ty e:TypeId) (i:TypeInfo) (z:av) (hs:P.underlying t=some (.slice e)) (hu:P.underlying u=some (.int .i64)) (hi:P.info? e=some i) (hz:i.zero=some z) (n:Nat) (hn:0 < n) (hsz:0 < i.size) (h63:(n:Int)<=9223372036854775807) (h48:n*i.bytes<=281474976710656) :
  (Builtin.append_ #[t,u] ty #[.slice none 0 0,.int .i64 n]).run P w=.ok (.slice (some ⟨w.heap.size,0,none⟩) n (grownCap w n 0 e)) (w.drew.alloc (.cells (Builtin.zeroCells z.cells n++Builtin.zeroCells z.cells (grownCap w n 0 e - n)) e)):=by
 have w1:=wL (z:=(n:Int)) V V
 have n1:¬ ((n:Int) < 0):=by omega
 have n2:¬ (281474976710656 < (n:Int)*i.bytes):=by rw [<- Int.natCast_mul];omega
 have n3:¬ n=0:=by omega
 have n4:¬ i.size=0:=by omega
 have n5:¬ (9223372036854775807 < (n:Int)):=by omega
 have n6:Builtin.nextslicecap n 0=n:=by simp [Builtin.nextslicecap,hn]
 have n7:¬ (281474976710656 < n*i.bytes):=by omega
 simp [Builtin.append_,run_underlying hs,run_underlying hu,sizeOf,typeInfo,zeroValue,hi,hz,asInt,asIntOf,w1,n1,n2,n3,n4,n5,n6,n7,Question.forced,newRow,grownCap,Builtin.firstCells]
 intro h
 rcases Nat.mul_eq_zero.1 h with h|h <;> omega
theorem aaD {t u e:TypeId} {sz bytes:Nat} {zero:List av} {agg:Bool} (hs:P.underlying t=some (.slice e)) (hu:P.underlying u=some (.int .i64)) (ht:Ty P e sz bytes zero agg) (hzl:Nat.beq zero.length sz=true) (hsz:Nat.blt 0 sz=true) {x y:Operand} {n:Nat} (H:St N D w0 F G0 G L T a w)
  (hw:Region.wanted ⟨some d,.call { callee:=.builtin .append,args:=#[x,y],argTypes:=#[t,u] },ty,pos,aG,g⟩ (yielded ops a.tmps)=true) (hx:ev T x=some (.slice none 0 0)) (hy:ev T y=some (.int .i64 (n:Int))) (hn:0 < n) (h63:n<=maxLen) (h48:n*bytes<=281474976710656) (hd:Nat.blt d N=true)
  (k:∀ b cap cur a' w',w0.heap.size<=b->n<=cap->cap<=maxLen->cur.size=cap*sz->St N D w0 F G0 G ((b,.cells cur e (0,0)) :: L) ((d,.slice (some ⟨b,0,none⟩) n cap) :: T) a' w'->WL r P ops Q rest a' w') :
  WL r P ops Q (⟨some d,.call { callee:=.builtin .append,args:=#[x,y],argTypes:=#[t,u] },ty,pos,aG,g⟩ :: rest) a w:=by
 obtain ⟨i,z,hi,hi1,hi2,hi3,hi4⟩:=ht.parts
 have hsz0:0 < sz:=Eq.mp Nat.blt_eq hsz
 have hzc:z.cells.size=sz:=by rw [hi4];simpa using uW hzl
 have h63':(n:Int)<=9223372036854775807:=by have hml:maxLen=9223372036854775807:=rfl;omega
 have hr:=aaq (P:=P) (w:=w) t u ty e i z hs hu hi hi3 n hn V h63' (by rw [hi2];exact h48)
 have hge:=grownCap_ge w n 0 e
 refine dQ (v:=.slice (some ⟨w.heap.size,0,none⟩) n (grownCap w n 0 e)) (w':=w.drew.alloc (.cells (Builtin.zeroCells z.cells n++Builtin.zeroCells z.cells (grownCap w n 0 e - n)) e)) hw O ?_ (k _ _ _ _ _ H.hp.size hge (grownCap_le_maxLen w n 0 e h63) ?_ (H.put hd _ (H.hp.drew.alloc _)))
 ·simp only [execOp,resolve,invoke,builtin,H.ev hx,H.ev hy,bZ,List.map_toArray,iT,ru,kJ,iX,hr]
 ·simp only [Array.size_append,size_zeroCells,hzc]
  rw [<- Nat.add_mul];congr 1;omega
end
end
theorem gG:prog.follows .mixedOrders=true:=by kernel_rfl
theorem nD:Ty prog 44 1 24 [.slice none 0 0] false:=⟨Z,Z⟩
theorem aW:Ty prog 46 1 24 [.slice none 0 0] false:=⟨Z,Z⟩
theorem aF:Ty prog 3 1 8 [.int .i64 0] false:=⟨Z,Z⟩
theorem fI:prog.underlying 44=some (.slice 46):=by kernel_rfl
theorem bE:prog.underlying 46=some (.slice 3):=by kernel_rfl
theorem Vp:bX 33:=cu func33 O
def eZ (k:Int):List Dat:=[li k]
theorem lF (G:GH) (k:Int):aZ G (eZ k) [vi k]:=by
 simp only [eZ,aZ]
 exact ⟨_,_,O,by simp [aC,Value.oneCell'],O⟩
theorem ZR {G:GH} {k:Int} {cs:List av} (h:aZ G (eZ k) cs):cs=[vi k]:=by
 simp only [eZ,aZ,aC] at h
 obtain ⟨v1,_,rfl,⟨rfl,-⟩,rfl⟩:=h
 rfl
def kS (r:List Int):List Dat:=[.sl 1 (r.map eZ)]
theorem oZ {G:GH} {r:List Int} {A:Option Addr} {n c k:Nat} (hv:aC G (.sl 1 (r.map eZ)) (.slice A n c)) (hk:k < r.length):∃ b o,A=some ⟨b,o,none⟩∧aR G b (o+k*1)=some (vi r[k]):=by
 obtain ⟨A',c',he,_,_,hg⟩:=hv.slice
 injection he with e1 e2 e3
 subst e1;obtain ⟨b,o,cs,h1,h2,h3,h4⟩:=hg k (eZ r[k]) (by simp [hk]);obtain rfl:=ZR h4;exact ⟨b,o,h1,h3 0 _ O⟩
theorem wO {G:GH} {S:List (List Int)} {A:Option Addr} {n c i:Nat} (hv:aC G (.sl 1 (S.map kS)) (.slice A n c)) (hi:i < S.length):∃ b o bA bc,A=some ⟨b,o,none⟩∧aR G b (o+i*1)=some (.slice bA S[i].length bc)∧aC G (.sl 1 (S[i].map eZ)) (.slice bA S[i].length bc):=by
 obtain ⟨A',c',he,_,_,hg⟩:=hv.slice
 injection he with e1 e2 e3
 subst e1;obtain ⟨b,o,cs,h1,h2,h3,h4⟩:=hg i (kS S[i]) (by simp [hi])
 simp only [kS,aZ] at h4
 obtain ⟨v,_,rfl,h5,rfl⟩:=h4;obtain ⟨bA,bn,bc,rfl⟩:=h5.form;obtain ⟨_,_,I4,-⟩:=h5.slice;obtain ⟨-,hn,-⟩:=Value.slice.inj I4;rw [bN] at hn;subst hn;exact ⟨b,o,bA,bc,h1,h3 0 _ O,h5⟩
def aU (S:List (List Int)) (i k:Nat):Int:=(S.getD i []).getD k 0
theorem Bn {S:List (List Int)} {i k:Nat} (hi:i < S.length) (hk:k < S[i].length):aU S i k=S[i][k]:=by
 simp [aU,List.getD,hi,hk]
def tot (s:Nat->Nat->Int) (n m i k:Nat):Int :=
 if h:i < n∧k < m then max (max (tot s n m (i+1) k) (tot s n m i (k+1))) (if s i k < 400 then -1 else s i k+tot s n m (i+1) (k+1)) else 0
termination_by (n - i)+(m - k)
theorem KG {s:Nat->Nat->Int} {n m i k:Nat} (hi:i < n) (hk:k < m):tot s n m i k=max (max (tot s n m (i+1) k) (tot s n m i (k+1))) (if s i k < 400 then -1 else s i k+tot s n m (i+1) (k+1)):=by
 rw [tot,dif_pos ⟨hi,hk⟩]
theorem BA {s:Nat->Nat->Int} {n m i k:Nat} (h:¬ (i < n∧k < m)):tot s n m i k=0:=by rw [tot,dif_neg h]
theorem Bz {s:Nat->Nat->Int} {n m:Nat} (hs:∀ i k,i < n->k < m->s i k<=1000):∀ (q i k:Nat),(n - i)+(m - k)<=q->0<=tot s n m i k∧tot s n m i k<=1000*((n - i:Nat):Int)
 | 0,i,k,h=>by rw [BA V];omega
 | q+1,i,k,h=>by
  by_cases hik:i < n∧k < m
  ·rw [KG hik.1 hik.2];have h1:=Bz hs q (i+1) k V;have h2:=Bz hs q i (k+1) V;have h3:=Bz hs q (i+1) (k+1) V;have h4:=hs i k hik.1 hik.2
   split <;> omega
  rw [BA hik];omega
structure gV where
 a:Int
 b:Int
 score:Int
def gV.dat (x:gV):List Dat:=[li x.a,li x.b,li x.score]
theorem PG (G:GH) (x:gV):aZ G x.dat [vi x.a,vi x.b,vi x.score]:=by
 simp only [gV.dat,aZ]
 exact ⟨_,_,O,by simp [aC,Value.oneCell'],_,_,O,by simp [aC,Value.oneCell'],_,_,O,by simp [aC,Value.oneCell'],O⟩
theorem Zz {G:GH} {x:gV} {cs:List av} (h:aZ G x.dat cs):cs=[vi x.a,vi x.b,vi x.score]:=by
 simp only [gV.dat,aZ,aC] at h
 obtain ⟨v1,_,rfl,⟨rfl,-⟩,v2,_,rfl,⟨rfl,-⟩,v3,_,rfl,⟨rfl,-⟩,rfl⟩:=h
 rfl
def uN (s:Nat->Nat->Int) (n m i k:Nat):Int:=if s i k < 400 then -1 else s i k+tot s n m (i+1) (k+1)
def jV (s:Nat->Nat->Int) (n m i k:Nat):List gV :=
 if h:i < n∧k < m then
  if tot s n m i k=uN s n m i k then ⟨i,k,s i k⟩ :: jV s n m (i+1) (k+1)
  else if tot s n m i k=tot s n m (i+1) k then jV s n m (i+1) k else jV s n m i (k+1)
 else []
termination_by (n - i)+(m - k)
theorem Ch (s:Nat->Nat->Int) (n m:Nat):∀ (q i k:Nat),(n - i)+(m - k)<=q->(jV s n m i k).length<=n - i
 | 0,i,k,h=>by rw [jV,dif_neg V];simp
 | q+1,i,k,h=>by
  rw [jV]
  split
  ·rename_i hik
   split
   ·have:=Ch s n m q (i+1) (k+1) V;simp only [kI];omega
   split
   ·have:=Ch s n m q (i+1) k V;omega
   exact Ch s n m q i (k+1) V
  simp
theorem Zi {W i k i' k':Nat} (hk:k < W) (hk':k' < W) (h:i*W+k=i'*W+k'):i=i'∧k=k':=by
 have h1:=jD (· / W) h;have h2:=jD (· % W) h
 have hW:0 < W:=by omega
 have e1:∀ a b:Nat,b < W->(a*W+b) / W=a:=fun a b hb=>by rw [Nat.mul_comm,Nat.mul_add_div hW,Nat.div_eq_of_lt hb,qZ]
 have e2:∀ a b:Nat,b < W->(a*W+b) % W=b:=fun a b hb=>by rw [Nat.mul_comm,Nat.mul_add_mod,Nat.mod_eq_of_lt hb]
 simp only [e1 _ _ hk,e1 _ _ hk'] at h1
 simp only [e2 _ _ hk,e2 _ _ hk'] at h2
 exact ⟨h1,h2⟩
structure Ce (G:GH) (bs bt bm bf:Nat) (S:List (List Int)) (m:Nat):Prop where
 sc:∃ A c,aR G bs 0=some (.slice A S.length c)∧aC G (.sl 1 (S.map kS)) (.slice A S.length c)
 wid:∀ r∈S,r.length=m
 tb:aR G bt 0=some (.slice (some ⟨bm,0,none⟩) (S.length+1) (S.length+1))
 rows:∀ i,i<=S.length->aR G bm i=some (.slice (some ⟨bf,i*(m+1),none⟩) (m+1) ((S.length+1)*(m+1) - i*(m+1)))
 small:S.length<=1024∧m<=1024
 ok:∀ i k,i < S.length->k < m->0<=aU S i k∧aU S i k<=1000
theorem Ce.mono {G G':GH} {bs bt bm bf:Nat} {S:List (List Int)} {m:Nat} (h:Ce G bs bt bm bf S m) (hm:∀ b o,G b=some o->G' b=some o):Ce G' bs bt bm bf S m:=by
 obtain ⟨A,c,h1,h2⟩:=h.sc;exact ⟨⟨A,c,aK hm h1,h2.mono hm⟩,h.wid,aK hm h.tb,fun i hi=>aK hm (h.rows i hi),h.small,h.ok⟩
abbrev bF (b:Nat) (fl:List Int):Nat × Obj:=(b,.cells (fl.map vi).toArray 3 (0,0))
theorem rF {fl:List Int} {o:Nat} {z:Int} (h:fl[o]?=some z):(fl.map vi).toArray[o]?=some (vi z):=by simp [h]
set_option maxHeartbeats 1000000 in
theorem Sl {G:GH} {w0:World} {Lx:OL} {bs bt bm bf m i k:Nat} {S:List (List Int)} {fl:List Int} {z:Int} (hT:Ce G bs bt bm bf S m) (hO:jS G (bF bf fl :: Lx) w0) (hi:i < S.length) (hk:k < m) (hz:fl[(i+1)*(m+1)+(k+1)]?=some z) (hzb:0<=z∧z<=10000000) :
  uR prog (.func (.func 33) #[] #[(aH bs 0),(aH bt 0)]) [vi i,vi k] w0 (jT w0 G (bF bf fl :: Lx) fun u G' L'=>u=vi (if aU S i k < 400 then -1 else aU S i k+z)∧L'=bF bf fl :: Lx):=by
 refine vo (caps:=[(aH bs 0),(aH bt 0)]) (args:=[vi i,vi k]) Vp ?_;obtain ⟨A,c,hs1,hs2⟩:=hT.sc;obtain ⟨b,o,bA,bc,rfl,g1,g2⟩:=wO hs2 hi;have hwi:=hT.wid _ (dV hi);obtain ⟨b2,o2,rfl,g3⟩:=oZ g2 (show k < S[i].length by omega);have ht:=hT.tb;have hr:=hT.rows (i+1) V;have hok:=hT.ok i k hi hk;have hsm:=hT.small;rw [<- Bn hi V] at g3;rw [hwi] at g1 g2;refine nU (N:=32) (T:=[(0,_),(1,_),(2,_),(3,_)]) func33 O ntmps33 O O hO ?_;intro a H;refine kP H (SR fun _ K1=>aB K1 O (SQ fun _ K2=>SR fun _ K3=>Rg nD O (by assumption) ?_));clear H K1;intro a H;refine kH H (Rm O (Ri fI aW O O (Rg aW O (by assumption) ?_)));clear H;intro a H;refine kH H (Rm O (Ri bE aF O O (Rg aF O (by assumption) ?_)));clear H;intro a H;refine kH H (Rc O (Kz K3 (Cd O ?_ ?_))) <;> clear H K3
 ·intro fF a H
  try have jY:=dT fF
  exact kP H (SR fun _ K4=>aB K4 O (LR results33 O fun H=>H.hp.dO ⟨by rw [aM jY],O⟩))
 intro fF a H
 try have jY:=dF fF
 refine mh ?_;refine K2 _ _ ?_;clear K2;refine iF (fun _ K5=>?_);have H:=H.sub (T':=[(0,_),(1,_),(2,_),(3,_)]) ⟨O,O,O,O,aL⟩;refine dI gG [[],[],[0,1],[0,1,2],[],ra 0 5,ra 0 6,[],[],[8],[7,8,9],ra 7 4,[],[12],ra 7 7,ra 7 8,ra 0 16,ra 0 17] [] Z [.slice (some ⟨b,o,none⟩) S.length c,vi i,(aH b (o+i*1)),.slice (some ⟨b2,o2,none⟩) m bc,vi k,(aH b2 (o2+k*1)),vi (aU S i k),.slice (some ⟨bm,0,none⟩) (S.length+1) (S.length+1),vi i,vi ((i:Int)+1),(aH bm (0+(i+1)*1)),.slice (some ⟨bf,(i+1)*(m+1),none⟩) (m+1) ((S.length+1)*(m+1) - (i+1)*(m+1)),vi k,vi ((k:Int)+1),(aH bf ((i+1)*(m+1)+(k+1)*1)),vi z,vi (aU S i k+z),vi (aU S i k+z)] H (aI ?_ ?_ ?_ ?_ (aI ?_ ?_ ?_ ?_ (aI ?_ ?_ ?_ ?_ (aI ?_ ?_ ?_ ?_ (iO ?_ (iO ?_ fQ)))))) ?_
 ·intro au a w G1 _ ah hc hG HT hv;have H:=HT;clear ah;have Hb:=H.full;have H:=Hb;clear hc;refine kH H (Rg nD O (aK hG hs1) ?_);clear H;intro a H;refine aj ⟨O,?_⟩;exact ay HT Hb hG hv (fun _ _ _ _ _ h=>h) H O
 ·intro au a w G1 _ ah hc hG HT hv;have H:=HT;clear ah;have Hb:=H.full;have H:=Hb;clear hc;refine kH H (Rm O ?_);clear H;intro a H;refine aj ⟨O,?_⟩;exact ay HT Hb hG hv (fun _ _ _ _ _ h=>h) H O
 ·intro au a w G1 _ ah hc hG HT hv;have H:=HT;clear ah;have H:=H.ak (hv 0 15 (hc 0 Y) O) O;have H:=H.ak (hv 1 16 (hc 1 Y) O) O;have Hb:=H.full;have H:=Hb;clear hc;refine kH H (Ri fI aW O O ?_);clear H;intro a H;refine aj ⟨O,?_⟩;exact ay HT Hb hG hv (fun _ _ _ _ _ h=>h) H O
 ·intro au a w G1 _ ah hc hG HT hv;have H:=HT;clear ah;have H:=H.ak (hv 2 17 (hc 2 Y) O) O;have Hb:=H.full;have H:=Hb;clear hc;refine kH H (Rg aW O (aK hG g1) ?_);clear H;intro a H;refine aj ⟨O,?_⟩;exact ay HT Hb hG hv (fun _ _ _ _ _ h=>h) H O
 ·intro au a w G1 _ ah hc hG HT hv;have H:=HT;clear ah;have Hb:=H.full;have H:=Hb;clear hc;refine kH H (Rm O ?_);clear H;intro a H;refine aj ⟨O,?_⟩;exact ay HT Hb hG hv (fun _ _ _ _ _ h=>h) H O
 ·intro au a w G1 _ ah hc hG HT hv;have H:=HT;clear ah;have H:=H.ak (hv 3 18 (hc 3 Y) O) O;have H:=H.ak (hv 4 19 (hc 4 Y) O) O;have Hb:=H.full;have H:=Hb;clear hc;refine kH H (Ri bE aF O O ?_);clear H;intro a H;refine aj ⟨O,?_⟩;exact ay HT Hb hG hv (fun _ _ _ _ _ h=>h) H O
 ·intro au a w G1 _ ah hc hG HT hv;have H:=HT;clear ah;have H:=H.ak (hv 5 20 (hc 5 Y) O) O;have Hb:=H.full;have H:=Hb;clear hc;refine kH H (Rg aF O (aK hG g3) ?_);clear H;intro a H;refine aj ⟨O,?_⟩;exact ay HT Hb hG hv (fun _ _ _ _ _ h=>h) H O
 ·intro au a w G1 _ ah hc hG HT hv;have H:=HT;clear ah;have Hb:=H.full;have H:=Hb;clear hc;refine kH H (Rg nD O (aK hG ht) ?_);clear H;intro a H;refine aj ⟨O,?_⟩;exact ay HT Hb hG hv (fun _ _ _ _ _ h=>h) H O
 ·intro au a w G1 _ ah hc hG HT hv;have H:=HT;clear ah;have Hb:=H.full;have H:=Hb;clear hc;refine kH H (Rm O ?_);clear H;intro a H;refine aj ⟨O,?_⟩;exact ay HT Hb hG hv (fun _ _ _ _ _ h=>h) H O
 ·intro au a w G1 _ ah hc hG HT hv;have H:=HT;clear ah;have H:=H.ak (hv 8 23 (hc 8 Y) O) O;have Hb:=H.full;have H:=Hb;clear hc;refine kH H (Rd O ?_);clear H;intro a H;refine aj ⟨O,?_⟩;exact ay HT Hb hG hv (fun _ _ _ _ _ h=>h) H O
 ·intro au a w G1 _ ah hc hG HT hv;have H:=HT;clear ah;have H:=H.ak (hv 7 22 (hc 7 Y) O) O;have H:=H.ak (hv 9 24 (hc 9 Y) O) O;have Hb:=H.full;have H:=Hb;clear hc;refine aT fI aW (i+1) H wn O O V V O ?_;clear H;intro a H;refine aj ⟨O,?_⟩;exact ay HT Hb hG hv (fun _ _ _ _ _ h=>h) H O
 ·intro au a w G1 _ ah hc hG HT hv;have H:=HT;clear ah;have H:=H.ak (hv 10 25 (hc 10 Y) O) O;have Hb:=H.full;have H:=Hb;clear hc;refine kH H (Rg aW O (aK hG (by rw [fC,Nat.mul_one];exact hr)) ?_);clear H;intro a H;refine aj ⟨O,?_⟩;exact ay HT Hb hG hv (fun _ _ _ _ _ h=>h) H O
 ·intro au a w G1 _ ah hc hG HT hv;have H:=HT;clear ah;have Hb:=H.full;have H:=Hb;clear hc;refine kH H (Rm O ?_);clear H;intro a H;refine aj ⟨O,?_⟩;exact ay HT Hb hG hv (fun _ _ _ _ _ h=>h) H O
 ·intro au a w G1 _ ah hc hG HT hv;have H:=HT;clear ah;have H:=H.ak (hv 12 27 (hc 12 Y) O) O;have Hb:=H.full;have H:=Hb;clear hc;refine kH H (Rd O ?_);clear H;intro a H;refine aj ⟨O,?_⟩;exact ay HT Hb hG hv (fun _ _ _ _ _ h=>h) H O
 ·intro au a w G1 _ ah hc hG HT hv;have H:=HT;clear ah;have H:=H.ak (hv 11 26 (hc 11 Y) O) O;have H:=H.ak (hv 13 28 (hc 13 Y) O) O;have Hb:=H.full;have H:=Hb;clear hc;refine aT bE aF (k+1) H wn O O V V O ?_;clear H;intro a H;refine aj ⟨O,?_⟩;exact ay HT Hb hG hv (fun _ _ _ _ _ h=>h) H O
 ·intro au a w G1 _ ah hc hG HT hv;have H:=HT;clear ah;have H:=H.ak (hv 14 29 (hc 14 Y) O) O;have Hb:=H.full;have H:=Hb;clear hc;refine iM aF H wn O (H.hp.jc 0 O (by rw [Nat.mul_one];exact rF hz)) O ?_;clear H;intro a H;refine aj ⟨O,?_⟩;exact ay HT Hb hG hv (fun _ _ _ _ _ h=>h) H O
 ·intro au a w G1 _ ah hc hG HT hv;have H:=HT;clear ah;have H:=H.ak (hv 6 21 (hc 6 Y) O) O;have H:=H.ak (hv 15 30 (hc 15 Y) O) O;have Hb:=H.full;have H:=Hb;clear hc;refine kH H (Rd O ?_);clear H;intro a H;refine aj ⟨O,?_⟩;exact ay HT Hb hG hv (fun _ _ _ _ _ h=>h) H O
 ·intro au a w G1 _ ah hc hG HT hv;have H:=HT;clear ah;have H:=H.ak (hv 16 31 (hc 16 Y) O) O;have Hb:=H.full;have H:=Hb;clear hc;refine kH H (Ra O ?_);clear H;intro a H;refine aj ⟨O,?_⟩;exact ay HT Hb hG hv (fun _ _ _ _ _ h=>h) H O
 clear H;intro a w G adL H hv;have H:=H.ak (hv 17 6 O O) O;clear hv;refine aj ⟨O,?_⟩;refine K5 _ _ ?_;clear K5;refine lr H results33 O ?_;exact H.hp.dO ⟨by rw [aJ jY],O⟩
theorem pJ:prog.underlying 167=some (.slice 177):=by kernel_rfl
theorem yH:Ty prog 177 3 24 [.int .i64 0,.int .i64 0,.int .i64 0] true:=⟨Z,Z⟩
theorem abG:qX prog 177 [(0,1),(1,1),(2,1)] [.int .i64 0,.int .i64 0,.int .i64 0]:=⟨Z,Z⟩
theorem zV:prog.underlying 142=some (.slice 158):=by kernel_rfl
theorem yG:Ty prog 158 3 24 [.int .i64 0,.int .i64 0,.int .i64 0] true:=⟨Z,Z⟩
theorem Q7:qX prog 158 [(0,1),(1,1),(2,1)] [.int .i64 0,.int .i64 0,.int .i64 0]:=⟨Z,Z⟩
theorem V3:bX 74:=cu func74 O
theorem V4:bX 75:=cu func75 O
structure fG where
 low:Int
 high:Int
 cls:Int
def fG.dat (x:fG):List Dat:=[li x.low,li x.high,li x.cls]
def fG.cells (x:fG):List av:=[vi x.low,vi x.high,vi x.cls]
theorem abC (G:GH) (x:fG):aZ G x.dat x.cells:=by
 simp only [fG.dat,fG.cells,aZ]
 exact ⟨_,_,O,by simp [aC,Value.oneCell'],_,_,O,by simp [aC,Value.oneCell'],_,_,O,by simp [aC,Value.oneCell'],O⟩
theorem QZ (G:GH):∀ (B A:List fG),dK G 3 (A.map fG.dat) (A.map fG.cells).flatten->dK G 3 ((A++B).map fG.dat) ((A++B).map fG.cells).flatten
 | [],A,h=>by rw [mg];exact h
 | x :: B,A,h=>by
  have h2:=h.snoc (abC G x) O;have h3:=QZ G B (A++[x]) (by simpa using h2)
  simpa using h3
theorem Kj (G:GH) (A:List fG):dK G 3 (A.map fG.dat) (A.map fG.cells).flatten:=QZ G A [] dK.nil
theorem abB {G:GH} {x:fG} {cs:List av} (h:aZ G x.dat cs):cs=x.cells:=by
 simp only [fG.dat,aZ,aC] at h
 obtain ⟨v1,_,rfl,⟨rfl,-⟩,v2,_,rfl,⟨rfl,-⟩,v3,_,rfl,⟨rfl,-⟩,rfl⟩:=h
 rfl
theorem Br {G:GH} {l:List fG} {A:Option Addr} {n c k:Nat} (hv:aC G (.sl 3 (l.map fG.dat)) (.slice A n c)) (hk:k < l.length):∃ b o,A=some ⟨b,o,none⟩∧(∀ j u,l[k].cells[j]?=some u->aR G b (o+k*3+j)=some u):=by
 obtain ⟨A',c',he,_,_,hg⟩:=hv.slice
 injection he with e1 e2 e3
 subst e1;obtain ⟨b,o,cs,h1,h2,h3,h4⟩:=hg k l[k].dat (by simp [hk]);obtain rfl:=abB h4;exact ⟨b,o,h1,h3⟩
theorem bP.all {e sz b n:Nat} {xs:List av} (h:xs.length=n*sz) (hn:n<=maxLen):bP e sz (.slice (some ⟨b,0,none⟩) n n) n xs [(b,.cells xs.toArray e (0,0))] :=
 ⟨h,.inr ⟨b,n,xs.toArray,rfl,rfl,bD _,hn,by simp [h],by simp [<- h]⟩⟩
def uo:List fG:=[⟨0,9,3⟩,⟨10,10,2⟩,⟨11,12,3⟩,⟨13,13,1⟩,⟨14,31,3⟩,⟨127,159,3⟩,⟨169,169,14⟩,⟨173,173,3⟩,⟨174,174,14⟩,⟨768,879,4⟩,⟨1155,1161,4⟩,⟨1425,1469,4⟩,⟨1471,1471,4⟩,⟨1473,1474,4⟩,⟨1476,1477,4⟩,⟨1479,1479,4⟩,⟨1536,1541,6⟩,⟨1552,1562,4⟩,⟨1611,1631,4⟩,⟨1648,1648,4⟩,⟨1750,1756,4⟩,⟨1757,1757,6⟩,⟨1759,1764,4⟩,⟨1767,1768,4⟩,⟨1770,1773,4⟩,⟨1807,1807,6⟩,⟨2274,2274,6⟩,⟨2307,2307,7⟩,⟨2362,2362,4⟩,⟨2363,2363,7⟩,⟨2364,2364,4⟩,⟨2366,2368,7⟩,⟨2369,2376,4⟩,⟨2377,2380,7⟩,⟨2381,2381,4⟩,⟨2382,2383,7⟩,⟨3633,3633,4⟩,⟨3635,3635,7⟩,⟨3636,3642,4⟩,⟨3655,3662,4⟩,⟨3763,3763,7⟩,⟨4352,4447,8⟩,⟨4448,4519,9⟩,⟨4520,4607,10⟩,⟨6832,6911,4⟩,⟨7616,7679,4⟩,⟨8203,8203,3⟩,⟨8204,8204,4⟩,⟨8205,8205,5⟩,⟨8206,8207,3⟩,⟨8232,8238,3⟩,⟨8252,8252,14⟩,⟨8265,8265,14⟩,⟨8288,8303,3⟩,⟨8400,8447,4⟩,⟨8482,8482,14⟩,⟨8505,8505,14⟩,⟨8596,8601,14⟩,⟨8617,8618,14⟩,⟨8986,8987,14⟩,⟨9193,9203,14⟩,⟨9728,9732,14⟩,⟨9748,9749,14⟩,⟨9786,9786,14⟩,⟨9800,9811,14⟩,⟨9989,9989,14⟩,⟨9992,9997,14⟩,⟨10024,10024,14⟩,⟨10084,10084,14⟩,⟨10133,10135,14⟩,⟨11088,11088,14⟩,⟨12330,12335,4⟩,⟨12441,12442,4⟩,⟨43360,43388,8⟩,⟨55216,55238,9⟩,⟨55243,55291,10⟩,⟨65024,65039,4⟩,⟨65056,65071,4⟩,⟨65279,65279,3⟩,⟨65520,65531,3⟩,⟨69821,69821,6⟩,⟨126976,127231,14⟩,⟨127462,127487,13⟩,⟨127744,127994,14⟩,⟨127995,127999,4⟩,⟨128000,128591,14⟩,⟨128640,128767,14⟩,⟨129280,129535,14⟩,⟨129648,129791,14⟩,⟨917504,917535,3⟩,⟨917536,917631,4⟩,⟨917632,917759,3⟩,⟨917760,917999,4⟩,⟨918000,921599,3⟩]
def FE:List fG:=[⟨9,9,2⟩,⟨10,13,1⟩,⟨29,29,1⟩,⟨32,32,2⟩,⟨33,33,9⟩,⟨39,39,11⟩,⟨40,40,8⟩,⟨41,41,9⟩,⟨44,44,10⟩,⟨45,45,12⟩,⟨46,46,10⟩,⟨48,57,6⟩,⟨58,59,9⟩,⟨63,63,9⟩,⟨65,90,5⟩,⟨91,91,8⟩,⟨93,93,9⟩,⟨95,95,5⟩,⟨97,122,5⟩,⟨123,123,8⟩,⟨125,125,9⟩,⟨133,133,1⟩,⟨160,160,3⟩,⟨170,170,5⟩,⟨171,171,8⟩,⟨173,173,4⟩,⟨181,181,5⟩,⟨183,183,11⟩,⟨186,186,5⟩,⟨187,187,9⟩,⟨192,214,5⟩,⟨216,246,5⟩,⟨248,687,5⟩,⟨880,883,5⟩,⟨886,887,5⟩,⟨891,893,5⟩,⟨895,895,5⟩,⟨902,902,5⟩,⟨904,1153,5⟩,⟨1162,1327,5⟩,⟨1329,1366,5⟩,⟨1377,1415,5⟩,⟨1488,1514,5⟩,⟨1568,1610,5⟩,⟨1632,1641,6⟩,⟨1643,1643,10⟩,⟨1649,1747,5⟩,⟨1776,1785,6⟩,⟨2308,2361,5⟩,⟨2392,2401,5⟩,⟨2406,2415,6⟩,⟨3585,3632,5⟩,⟨3648,3654,5⟩,⟨3664,3673,6⟩,⟨4256,4351,5⟩,⟨4352,4607,5⟩]
def J5:List fG:=[⟨5760,5760,2⟩,⟨7680,8191,5⟩,⟨8192,8198,2⟩,⟨8199,8199,3⟩,⟨8200,8202,2⟩,⟨8208,8208,12⟩,⟨8211,8211,12⟩,⟨8212,8212,13⟩,⟨8216,8216,8⟩,⟨8217,8217,11⟩,⟨8220,8220,8⟩,⟨8221,8221,9⟩,⟨8230,8230,9⟩,⟨8232,8233,1⟩,⟨8239,8239,3⟩,⟨8287,8287,2⟩,⟨8288,8288,3⟩,⟨12288,12288,2⟩,⟨12289,12290,9⟩,⟨12296,12296,8⟩,⟨12297,12297,9⟩,⟨12298,12298,8⟩,⟨12299,12299,9⟩,⟨12300,12300,8⟩,⟨12301,12301,9⟩,⟨12302,12302,8⟩,⟨12303,12303,9⟩,⟨12304,12304,8⟩,⟨12305,12305,9⟩,⟨12308,12308,8⟩,⟨12309,12309,9⟩,⟨12353,12438,7⟩,⟨12449,12538,7⟩,⟨12549,12591,7⟩,⟨13312,19903,7⟩,⟨19968,40959,7⟩,⟨44032,55203,5⟩,⟨63744,64255,7⟩,⟨65279,65279,3⟩,⟨65296,65305,6⟩,⟨127744,128591,7⟩,⟨128640,128767,7⟩,⟨129280,129535,7⟩,⟨131072,195103,7⟩]
def nJ:List fG:=FE++J5
set_option maxRecDepth 20000 in
theorem WX (G:GH) (w0:World) (hG:Hold G w0):Calls prog 82 #[] w0 (cO w0 G fun u G'=>aC G' (.sl 3 (uo.map fG.dat)) u):=by
 refine eN [] func82 O ntmps82 O O hG ?_;intro a H;refine kP H (SR fun _ K1=>aB K1 O (SR fun _ K2=>?_));clear H K1;intro a H;(iterate 94 refine kF abG [_,_,_] H wn O O O O ?_;clear H;intro a H);refine zK pJ yH (uo.map fG.cells) H wn O O O O O O O ?_;clear H;intro b95 a w aem H;refine kH H (aB K2 O ?_);clear H K2;intro a H;refine lr H results82 O ?_;obtain ⟨Gz,hmz,hbz,H⟩:=H.jd;exact H.rt (aC.mQ (n:=94) (cap:=94) hbz O (bD _) (show 94<=maxLen by decide) (iU (bD _)) (Kj _ _))
set_option maxRecDepth 20000 in
theorem aby (G:GH) (w0:World) (hO:jS G [] w0):Calls prog 74 #[] w0 (jT w0 G [] fun u G' L'=>G=G'∧bP 158 3 u 56 (FE.map fG.cells).flatten L'):=by
 refine nU (N:=58) (T:=[]) func74 O ntmps74 O O hO ?_;intro a H;refine kP H (SR fun _ K1=>aB K1 O (SR fun _ K2=>?_));clear H K1;intro a H;(iterate 56 refine kF Q7 [_,_,_] H wn O O O O ?_;clear H;intro a H);refine zK zV yG (FE.map fG.cells) H wn O O O O O O O ?_;clear H;intro TN a w XH H;exact kH H (aB K2 O (LR results74 O fun H=>H.hp.dO ⟨O,bP.all O Y⟩))
theorem abp (G:GH) (w0:World) (hG:Hold G w0):Calls prog 75 #[] w0 (cO w0 G fun u G'=>aC G' (.sl 3 (J5.map fG.dat)) u):=by
 refine eN [] func75 O ntmps75 O O hG ?_;intro a H;refine kP H (SR fun _ K1=>aB K1 O (SR fun _ K2=>?_));clear H K1;intro a H;(iterate 44 refine kF Q7 [_,_,_] H wn O O O O ?_;clear H;intro a H);refine zK zV yG (J5.map fG.cells) H wn O O O O O O O ?_;clear H;intro TM a w XG H;refine kH H (aB K2 O ?_);clear H K2;intro a H;refine lr H results75 O ?_;obtain ⟨Gz,hmz,hbz,H⟩:=H.jd;exact H.rt (aC.mQ (n:=44) (cap:=44) hbz O (bD _) (show 44<=maxLen by decide) (iU (bD _)) (Kj _ _))
theorem abI (G:GH) (w0:World) (hG:Hold G w0):Calls prog 65 #[] w0 (cO w0 G fun u G'=>aC G' (.sl 3 (nJ.map fG.dat)) u):=by
 have hml:maxLen=9223372036854775807:=rfl;refine eN [] func65 O ntmps65 O O hG ?_;intro a H;refine kP H (SR fun _ K1=>aB K1 O (SR fun _ K2=>?_));clear H K1;intro a H;refine jH V3 (Li:=[]) (L:=[]) H wn O (aby _ _ (Hp.owns (Li:=[]) H.hp)) O ?_;clear H;rintro v1 _ L1 a w ⟨rfl,hrw⟩ - H;dsimp only [List.nil_append] at H;refine s_call V4 H wn O (abp _ _ H.ro) O ?_;clear H;rintro v2 G2 a w hrep hm2 H;obtain ⟨A2,c2,rfl,-,-,-⟩:=hrep.slice;refine Qz (Li:=[]) (Lo:=L1) zV yG O O H wn O O hrw hrep Y Y O ?_;clear H;intro v3 Lo3 aeH a w hrw3 IW H;dsimp only [List.nil_append] at H;refine kH H (aB K2 O ?_);clear H K2;intro a H;refine lr H results65 O ?_;obtain ⟨Gr,hmr,qj,H⟩:=St.ni (Li:=[]) H hrw3 (rows:=nJ.map fG.dat) (by rfl) (by rw [nJ,kC];exact (Kj _ FE).append IW);exact H.rt qj
theorem F8:prog.underlying 136=some (.int .u64):=by kernel_rfl
theorem qx:Ty prog 167 1 24 [.slice none 0 0] false:=⟨Z,Z⟩
theorem WH:gQ prog 177 1 1:=⟨Z⟩
theorem NT:bX 87:=cu func87 O
theorem EA:gQ prog 177 0 0:=⟨Z⟩
theorem NZ:gQ prog 177 2 2:=⟨Z⟩
theorem Wh:bX 88:=cu func88 O
theorem R7 {z:Int} (h1:0<=z) (h2:z < 18446744073709551616):IntKind.u64.wrap z=z:=by
 simp only [IntKind.wrap,IntKind.bits,IntKind.signed,Bool.false_and,Ae,if_false]
 omega
theorem QU (n:Nat):((n:Nat):Int).fdiv (2 ^ 1)=((n / 2:Nat):Int):=by
 rw [Int.fdiv_eq_ediv_of_nonneg _ Y];omega
def bs (p:Nat->Bool):Nat->Nat->Nat->Nat
 | 0,i,_=>i
 | f+1,i,j=>if i < j then (if p ((i+j) / 2) then bs p f i ((i+j) / 2) else bs p f ((i+j) / 2+1) j) else i
theorem Mw {p:Nat->Bool} {f i j:Nat} (hf:j - i<=f) (h:i < j):bs p f i j=if p ((i+j) / 2) then bs p (f - 1) i ((i+j) / 2) else bs p (f - 1) ((i+j) / 2+1) j:=by
 match f,hf with
 | 0,hf=>omega
 | f+1,_=>rw [bs,aM h];rfl
theorem Mv {p:Nat->Bool} {f i j:Nat} (h:¬ i < j):bs p f i j=i:=by
 match f with
 | 0=>rfl
 | f+1=>rw [bs,aJ h]
theorem QN (G:GH) (w0:World) (hG:Hold G w0) (n:Nat) (p:Nat->Bool) (fv:av) (hn:n<=4294967296) (hf:∀ (i:Nat) (G1:GH) (w1:World),i < n->(∀ b o,G b=some o->G1 b=some o)->Hold G1 w1->uR prog fv [vi i] w1 (cO w1 G1 fun u G'=>u=.bool (p i))) :
  Calls prog 87 #[vi n,fv] w0 (cO w0 G fun u G'=>u=vi (bs p n 0 n)):=by
 refine eN [(0,_),(1,_)] func87 O ntmps87 O O hG ?_;intro a H;refine kP H (SR fun _ K1=>aB K1 O (SR fun _ K2=>Rm O (Ra O (aB K2 O (SQ fun _ K3=>SB ?_)))));clear H K1 K2;intro a H;skip;refine eG (ι:=Nat × Nat × Nat × GH) (Tc:=[(1,_)]) (Lc:=[]) (fun gh=>[(5,vi gh.1),(6,vi gh.2.1)]) (fun gh=>[]) (fun gh=>gh.2.2.2) (fun gh=>gh.1<=gh.2.1∧gh.2.1<=n∧gh.2.1 - gh.1<=gh.2.2.1∧bs p gh.2.2.1 gh.1 gh.2.1=bs p n 0 n∧(∀ b o,G b=some o->gh.2.2.2 b=some o)) (fun gh=>gh.2.1 - gh.1) ((0,n,n,G)) (by exact H.sub ⟨O,O,O,aL⟩) ?_ ?_
 ·exact ⟨dU _,bD _,Nat.sub_le _ _,O,fun _ _ h=>h⟩
 clear H;rintro ⟨i,j,f,g⟩ a w hI H;dsimp only at hI H;obtain ⟨hij,hj,hf1,heq,hgm⟩:=hI;dsimp only [lca,dB] at H;refine kP H (SQ fun _ K4=>SR fun _ K5=>Rm O (Rm O (Rc O (Kz K5 (Cd O ?_ ?_))))) <;> clear H K5
 ·intro h11 a H
  try have rR:=dT h11
  have hlt:i < j:=by omega
  rw [Mw hf1 hlt] at heq;refine kP H (Kc K4 (SB (SR fun _ K6=>Rm O (Rm O (Rd O ?_)))));clear H K4;intro a H;rw [show ((i:Int)+(j:Int))=((i+j:Nat):Int) by push_cast;rfl] at H;refine yD ((i+j:Nat):Int) F8 wW H wn O (R7 V V) O ?_;clear H;intro a H;refine J7 _ H wn O O O Y O ?_;clear H;intro a H;rw [QU] at H;refine yD (((i+j) / 2:Nat):Int) wW F8 H wn O (wL V V) O ?_;clear H;intro a H;refine kH H (aB K6 O (SR fun _ K7=>Rm O (Rm O ?_)));clear H K6;intro a H;refine yC H wn O O (hf ((i+j) / 2) _ _ V hgm H.ro) O ?_;clear H;rintro v20 xq a w rfl CP H;refine kH H (Rn O (Kz K7 (Cd O ?_ ?_))) <;> clear H K7
  ·intro h21 a H
   try have mD:=dT h21
   rw [aJ (by simpa using h21)] at heq;refine kP H (SC (Rm O (Rd O (Ra O ?_))));clear H;intro a H;refine aj ?_;refine bg (((i+j) / 2+1,j,f - 1,xq)) (by exact H.sub ⟨O,O,O,aL⟩) ?_
   (try dsimp only);exact ⟨V,hj,V,heq,fun b o h=>CP b o (hgm b o h)⟩
  intro h21 a H
  try have mD:=dF h21
  rw [aM (by simpa using h21)] at heq;refine kP H (SC (Rm O (Ra O ?_)));clear H;intro a H;refine aj ?_;refine bg ((i,(i+j) / 2,f - 1,xq)) (by exact H.sub ⟨O,O,O,aL⟩) ?_
  (try dsimp only);exact ⟨V,V,V,heq,fun b o h=>CP b o (hgm b o h)⟩
 intro h11 a H
 try have rR:=dF h11
 refine dD ?_;refine K3 _ _ ?_;clear K3;exact kP H (SR fun _ K8=>Rm O (aB K8 O (LR results87 O fun H=>H.rt (by rw [<- heq,Mv V]))))
def yg (l:List fG) (p:Int) (i:Nat):Bool:=match l[i]? with|some x=>decide (x.high ≥ p)|none=>false
def nT (l:List fG) (p:Int):Int :=
 if 44032<=p∧p<=55203 then (if (p - 44032).tmod 28=0 then 11 else 12)
 else match l[bs (yg l p) l.length 0 l.length]? with|some x=>if x.low<=p then x.cls else 0|none=>0
theorem OB {G:GH} {bl bp:Nat} {l:List fG} {A:Option Addr} {c:Nat} {p:Int} (hb:aR G bl 0=some (.slice A l.length c)) (hp:aR G bp 0=some (vi p)) (hv:aC G (.sl 3 (l.map fG.dat)) (.slice A l.length c)) (i:Nat) (G1:GH) (w0:World) (hi:i < l.length) (hm:∀ b o,G b=some o->G1 b=some o) (hG:Hold G1 w0) :
  uR prog (.func (.func 88) #[] #[(aH bl 0),(aH bp 0)]) [vi i] w0 (cO w0 G1 fun u G'=>u=.bool (yg l p i)):=by
 refine vo (caps:=[(aH bl 0),(aH bp 0)]) Wh ?_;obtain ⟨b,o,rfl,hrow⟩:=Br hv hi;have h1:=aK hm hb;have h2:=aK hm hp;have h3:=aK hm (hrow 1 _ O)
 have e:yg l p i=decide (l[i].high ≥ p):=by simp only [yg,iR hi]
 rw [e];refine eN [(0,_),(1,_),(2,_)] func88 O ntmps88 O O hG ?_;intro a H;refine kP H (SR fun _ K1=>aB K1 O (SQ fun _ K2=>?_));clear H K1;intro a H;have H:=H.sub (T':=[(0,_),(1,_),(2,_)]) ⟨O,O,O,aL⟩;refine dI gG [[],[],[0,1],[0,1,2],ra 0 4,[],ra 0 6,ra 0 7] [] Z [.slice (some ⟨b,o,none⟩) l.length c,vi i,(aH b (o+i*3)),(aH b (o+i*3+1)),vi l[i].high,vi p,.bool (decide (l[i].high ≥ p)),.bool (decide (l[i].high ≥ p))] H (aI ?_ ?_ ?_ ?_ (aI ?_ ?_ ?_ ?_ fQ)) ?_
 ·intro au a w G1 _ ah hc hG HT hv;have H:=HT;clear ah;have Hb:=H.full;have H:=Hb;clear hc;refine kH H (Rg qx O (aK hG h1) ?_);clear H;intro a H;refine aj ⟨O,?_⟩;exact ay HT Hb hG hv (fun _ _ _ _ _ h=>h) H O
 ·intro au a w G1 _ ah hc hG HT hv;have H:=HT;clear ah;have Hb:=H.full;have H:=Hb;clear hc;refine kH H (Rm O ?_);clear H;intro a H;refine aj ⟨O,?_⟩;exact ay HT Hb hG hv (fun _ _ _ _ _ h=>h) H O
 ·intro au a w G1 _ ah hc hG HT hv;have H:=HT;clear ah;have H:=H.ak (hv 0 5 (hc 0 Y) O) O;have H:=H.ak (hv 1 6 (hc 1 Y) O) O;have Hb:=H.full;have H:=Hb;clear hc;refine kH H (Ri pJ yH O O ?_);clear H;intro a H;refine aj ⟨O,?_⟩;exact ay HT Hb hG hv (fun _ _ _ _ _ h=>h) H O
 ·intro au a w G1 _ ah hc hG HT hv;have H:=HT;clear ah;have H:=H.ak (hv 2 7 (hc 2 Y) O) O;have Hb:=H.full;have H:=Hb;clear hc;refine kH H (Rf WH O ?_);clear H;intro a H;refine aj ⟨O,?_⟩;exact ay HT Hb hG hv (fun _ _ _ _ _ h=>h) H O
 ·intro au a w G1 _ ah hc hG HT hv;have H:=HT;clear ah;have H:=H.ak (hv 3 8 (hc 3 Y) O) O;have Hb:=H.full;have H:=Hb;clear hc;refine kH H (Rg aF O (aK hG h3) ?_);clear H;intro a H;refine aj ⟨O,?_⟩;exact ay HT Hb hG hv (fun _ _ _ _ _ h=>h) H O
 ·intro au a w G1 _ ah hc hG HT hv;have H:=HT;clear ah;have Hb:=H.full;have H:=Hb;clear hc;refine kH H (Rg aF O (aK hG h2) ?_);clear H;intro a H;refine aj ⟨O,?_⟩;exact ay HT Hb hG hv (fun _ _ _ _ _ h=>h) H O
 ·intro au a w G1 _ ah hc hG HT hv;have H:=HT;clear ah;have H:=H.ak (hv 4 9 (hc 4 Y) O) O;have H:=H.ak (hv 5 10 (hc 5 Y) O) O;have Hb:=H.full;have H:=Hb;clear hc;refine kH H (Rc O ?_);clear H;intro a H;refine aj ⟨O,?_⟩;exact ay HT Hb hG hv (fun _ _ _ _ _ h=>h) H O
 ·intro au a w G1 _ ah hc hG HT hv;have H:=HT;clear ah;have H:=H.ak (hv 6 11 (hc 6 Y) O) O;have Hb:=H.full;have H:=Hb;clear hc;refine kH H (Ra O ?_);clear H;intro a H;refine aj ⟨O,?_⟩;exact ay HT Hb hG hv (fun _ _ _ _ _ h=>h) H O
 clear H;intro a w G IC H hv;have H:=H.ak (hv 7 4 O O) O;clear hv;refine aj ⟨O,?_⟩;refine K2 _ _ ?_;clear K2;refine lr H results88 O ?_;exact H.rt O
theorem UC (G:GH) (w0:World) (hG:Hold G w0) (l:List fG) (p:Int) (v:av) (hv:aC G (.sl 3 (l.map fG.dat)) v) (hl:l.length<=4294967296) (hp:0<=p∧p<=4294967296) :
  Calls prog 83 #[v,vi p] w0 (cO w0 G fun u G'=>u=vi (nT l p)):=by
 obtain ⟨A,c,rfl,hc1,hc2,-⟩:=hv.slice;rw [bN] at *;refine eN [(0,_),(1,_)] func83 O ntmps83 O O hG ?_;intro a H;refine jL (fun _ K1=>?_);refine oo (cs:=[_]) H wn O O O ?_;clear H;intro b2 a w hb2 H;refine oo (cs:=[_]) H wn O O O ?_;clear H;intro b3 a w hb3 H;refine kH H (aB K1 O (SQ fun _ K2=>SR fun _ K3=>Ro aF 0 O (Rc O (Rm O (Sp 8 O ?_ ?_))))) <;> clear H K1
 ·intro h8 a H
  try have p8:=dT h8
  refine kH H (YO aF 0 h8 O (YC h8 O (Pt h8 O (Kz K3 (Cd O ?_ ?_))))) <;> clear H K3
  ·intro h11 a H
   try have rR:=dT h11
   refine kP H (SQ fun _ K4=>SR fun _ K5=>Ro aF 0 O (Rs O ?_));clear H;intro a H;refine zN ((p - 44032).tmod 28) H wn O O Y O O ?_;clear H;intro a H;refine kH H (Rc O (Kz K5 (Cd O ?_ ?_))) <;> clear H K5
   ·intro jX a H
    try have qo:=dT jX
    exact kP H (SR fun _ K6=>aB K6 O (LR results83 O fun H=>H.rt (by rw [nT,aM ⟨V,V⟩,aM qo])))
   intro jX a H
   try have qo:=dF jX
   exact kP H (Kc K4 (SR fun _ K7=>aB K7 O (LR results83 O fun H=>H.rt (by rw [nT,aM ⟨V,V⟩,aJ qo]))))
  intro h11 a H
  try have rR:=dF h11
  refine mh ?_;refine K2 _ _ ?_;clear K2;refine iF (fun _ K8=>?_);obtain ⟨Ga,hma,IU,H⟩:=H.jd;obtain ⟨Gb,hmb,hb2',H⟩:=H.jd;have hv2:=(hv.mono hma).mono hmb
  have q2:aR Gb b2 0=some (.slice A l.length c):=by unfold aR;rw [hb2'];rfl
  have q3:aR Gb b3 0=some (vi p):=by unfold aR;rw [hmb _ _ IU];rfl
  refine kP H (SC (Rg qx O q2 (Rl pJ O ?_)));clear H;intro a H;refine DC H wn O O ?_;clear H;intro a H;refine s_call NT H wn O (QN _ _ H.ro l.length (yg l p) _ hl (fun i G1 w1 hi hm hG1=>OB q2 q3 hv2 i G1 w1 hi hm hG1)) O ?_;clear H;rintro v19 rV a w rfl mP H;have q2:=aK mP q2;have q3:=aK mP q3;have hv2:=hv2.mono mP;obtain ⟨k,hk⟩:∃ k,k=bs (yg l p) l.length 0 l.length:=⟨_,O⟩;rw [<- hk] at H;refine kH H (bS K8 O (SQ fun _ K9=>SQ fun _ aP=>?_));clear H K8;intro a H
  obtain ⟨lo,cl,sb,so,hx⟩:∃ lo cl sb so,k < l.length->A=some ⟨sb,so,none⟩∧l[k]?.map fG.low=some lo∧l[k]?.map fG.cls=some cl∧aR rV sb (so+k*3+0)=some (vi lo)∧aR rV sb (so+k*3+2)=some (vi cl):=by
   by_cases h:k < l.length
   ·obtain ⟨sb,so,h1,h2⟩:=Br hv2 h;exact ⟨_,_,sb,so,fun _=>⟨h1,by rw [iR h];rfl,by rw [iR h];rfl,h2 0 _ rfl,h2 2 _ rfl⟩⟩
   exact ⟨0,0,0,0,fun h'=>absurd h' h⟩
  by_cases c0:(k:Int) < (l.length:Int)
  ·skip
   by_cases c1:lo<=p
   ·skip;refine dI gG [[],[],[1],[0,1,2],ra 0 4,ra 0 5,ra 0 5,ra 0 7,ra 0 8,ra 0 9,ra 0 5,ra 0 11,ra 0 12] [] Z [vi k,.slice A l.length c,vi l.length,.bool (decide ((k:Int) < (l.length:Int))),.bool (decide ((k:Int) < (l.length:Int))),.slice A l.length c,vi k,(aH sb (so+k*3)),(aH sb (so+k*3+0)),vi lo,vi p,.bool (decide (lo<=p)),.bool (decide (lo<=p))] H (aI ?_ ?_ ?_ ?_ (aI ?_ ?_ ?_ ?_ (aI ?_ ?_ ?_ ?_ (iO ?_ fQ)))) ?_
    ·intro au a w G1 _ ah hc hG HT hv;have H:=HT;clear ah;have Hb:=H.full;have H:=Hb;clear hc;refine kH H (Rm O ?_);clear H;intro a H;refine aj ⟨O,?_⟩;exact ay HT Hb hG hv (fun _ _ _ _ _ h=>h) H O
    ·intro au a w G1 _ ah hc hG HT hv;have H:=HT;clear ah;have Hb:=H.full;have H:=Hb;clear hc;refine kH H (Rg qx O (aK hG q2) ?_);clear H;intro a H;refine aj ⟨O,?_⟩;exact ay HT Hb hG hv (fun _ _ _ _ _ h=>h) H O
    ·intro au a w G1 _ ah hc hG HT hv;have H:=HT;clear ah;have H:=H.ak (hv 1 21 (hc 1 Y) O) O;have Hb:=H.full;have H:=Hb;clear hc;refine kH H (Rl pJ O ?_);clear H;intro a H;refine aj ⟨O,?_⟩;exact ay HT Hb hG hv (fun _ _ _ _ _ h=>h) H O
    ·intro au a w G1 _ ah hc hG HT hv;have H:=HT;clear ah;have H:=H.ak (hv 0 20 (hc 0 Y) O) O;have H:=H.ak (hv 2 22 (hc 2 Y) O) O;have Hb:=H.full;have H:=Hb;clear hc;refine kH H (Rc O ?_);clear H;intro a H;refine aj ⟨O,?_⟩;exact ay HT Hb hG hv (fun _ _ _ _ _ h=>h) H O
    ·intro au a w G1 _ ah hc hG HT hv;have H:=HT;clear ah;have H:=H.ak (hv 3 23 (hc 3 Y) O) O;have Hb:=H.full;have H:=Hb;clear hc;refine kH H (Rm O ?_);clear H;intro a H;refine aj ⟨O,?_⟩;exact ay HT Hb hG hv (fun _ _ _ _ _ h=>h) H O
    ·intro au a w G1 _ ah hc hG HT hv;have H:=HT;clear ah;have H:=H.ak (hv 4 24 (hc 4 Y) O) O;have Hb:=H.full;have H:=Hb;clear hc;refine kH H (YR qx (dz c0) O (aK hG q2) ?_);clear H;intro a H;refine aj ⟨O,?_⟩;exact ay HT Hb hG hv (fun _ _ _ _ _ h=>h) H O
    ·intro au a w G1 _ ah hc hG HT hv;have H:=HT;clear ah;have H:=H.ak (hv 4 24 (hc 4 Y) O) O;have Hb:=H.full;have H:=Hb;clear hc;refine kH H (YM (dz c0) O ?_);clear H;intro a H;refine aj ⟨O,?_⟩;exact ay HT Hb hG hv (fun _ _ _ _ _ h=>h) H O
    ·intro au a w G1 _ ah hc hG HT hv;have H:=HT;clear ah;have H:=H.ak (hv 5 25 (hc 5 Y) O) O;have H:=H.ak (hv 6 26 (hc 6 Y) O) O;have H:=H.ak (hv 4 24 (hc 4 Y) O) O;have Hb:=H.full;have H:=Hb;clear hc;obtain ⟨rfl,hx1,hx2,hx3,hx4⟩:=hx V;refine aT pJ yH k H (wg H O O (dz c0)) O O O V O ?_;clear H;intro a H;refine aj ⟨O,?_⟩;exact ay HT Hb hG hv (fun _ _ _ _ _ h=>h) H O
    ·intro au a w G1 _ ah hc hG HT hv;have H:=HT;clear ah;have H:=H.ak (hv 7 27 (hc 7 Y) O) O;have H:=H.ak (hv 4 24 (hc 4 Y) O) O;have Hb:=H.full;have H:=Hb;clear hc;refine kH H (YF EA (dz c0) O ?_);clear H;intro a H;refine aj ⟨O,?_⟩;exact ay HT Hb hG hv (fun _ _ _ _ _ h=>h) H O
    ·intro au a w G1 _ ah hc hG HT hv;have H:=HT;clear ah;have H:=H.ak (hv 8 28 (hc 8 Y) O) O;have H:=H.ak (hv 4 24 (hc 4 Y) O) O;have Hb:=H.full;have H:=Hb;clear hc;obtain ⟨rfl,hx1,hx2,hx3,hx4⟩:=hx V;refine kH H (YR aF (dz c0) O (aK hG hx3) ?_);clear H;intro a H;refine aj ⟨O,?_⟩;exact ay HT Hb hG hv (fun _ _ _ _ _ h=>h) H O
    ·intro au a w G1 _ ah hc hG HT hv;have H:=HT;clear ah;have H:=H.ak (hv 4 24 (hc 4 Y) O) O;have Hb:=H.full;have H:=Hb;clear hc;refine kH H (YR aF (dz c0) O (aK hG q3) ?_);clear H;intro a H;refine aj ⟨O,?_⟩;exact ay HT Hb hG hv (fun _ _ _ _ _ h=>h) H O
    ·intro au a w G1 _ ah hc hG HT hv;have H:=HT;clear ah;have H:=H.ak (hv 9 29 (hc 9 Y) O) O;have H:=H.ak (hv 10 30 (hc 10 Y) O) O;have H:=H.ak (hv 4 24 (hc 4 Y) O) O;have Hb:=H.full;have H:=Hb;clear hc;refine kH H (YC (dz c0) O ?_);clear H;intro a H;refine aj ⟨O,?_⟩;exact ay HT Hb hG hv (fun _ _ _ _ _ h=>h) H O
    ·intro au a w G1 _ ah hc hG HT hv;have H:=HT;clear ah;have H:=H.ak (hv 4 24 (hc 4 Y) O) O;have H:=H.ak (hv 11 31 (hc 11 Y) O) O;have Hb:=H.full;have H:=Hb;clear hc;refine kH H (Pt (dz c0) O ?_);clear H;intro a H;refine aj ⟨O,?_⟩;exact ay HT Hb hG hv (fun _ _ _ _ _ h=>h) H O
    clear H;intro a w G sM H hv;have H:=H.ak (hv 12 32 O O) O;clear hv;refine aj ⟨O,?_⟩;refine aP _ _ ?_;clear aP;refine Cj H O (dz c1) ?_;refine iF (fun _ bH=>?_);obtain ⟨rfl,hx1,hx2,hx3,hx4⟩:=hx V;have q2:=aK sM q2;have hx4:=aK sM hx4;refine kP H (SC (Rg qx O q2 (Rm O ?_)));clear H;intro a H;refine aT pJ yH k H wn O O O V O ?_;clear H;intro a H;refine kH H (Rf NZ O (Rg aF O hx4 (bS bH O ?_)));clear H bH;intro a H;refine lr H results83 O ?_;have hkl:=fun (h:k < l.length)=>iR h
    exact H.rt (by
     rw [nT,aX,<- hk]
     by_cases h:k < l.length
     ·obtain ⟨-,hx1,hx2,-,-⟩:=hx h;rw [hkl h] at hx1 hx2 |-
      simp only [oM,ku] at hx1 hx2
      dsimp only;rw [hx1,hx2]
      first|rw [aM c1]|rw [aJ c1]|exact absurd h V
     rw [List.getElem?_eq_none V] <;> first|rfl|exact absurd c0 V)
   skip;refine dI gG [[],[],[1],[0,1,2],ra 0 4,ra 0 5,ra 0 5,ra 0 7,ra 0 8,ra 0 9,ra 0 5,ra 0 11,ra 0 12] [] Z [vi k,.slice A l.length c,vi l.length,.bool (decide ((k:Int) < (l.length:Int))),.bool (decide ((k:Int) < (l.length:Int))),.slice A l.length c,vi k,(aH sb (so+k*3)),(aH sb (so+k*3+0)),vi lo,vi p,.bool (decide (lo<=p)),.bool (decide (lo<=p))] H (aI ?_ ?_ ?_ ?_ (aI ?_ ?_ ?_ ?_ (aI ?_ ?_ ?_ ?_ (iO ?_ fQ)))) ?_
   ·intro au a w G1 _ ah hc hG HT hv;have H:=HT;clear ah;have Hb:=H.full;have H:=Hb;clear hc;refine kH H (Rm O ?_);clear H;intro a H;refine aj ⟨O,?_⟩;exact ay HT Hb hG hv (fun _ _ _ _ _ h=>h) H O
   ·intro au a w G1 _ ah hc hG HT hv;have H:=HT;clear ah;have Hb:=H.full;have H:=Hb;clear hc;refine kH H (Rg qx O (aK hG q2) ?_);clear H;intro a H;refine aj ⟨O,?_⟩;exact ay HT Hb hG hv (fun _ _ _ _ _ h=>h) H O
   ·intro au a w G1 _ ah hc hG HT hv;have H:=HT;clear ah;have H:=H.ak (hv 1 21 (hc 1 Y) O) O;have Hb:=H.full;have H:=Hb;clear hc;refine kH H (Rl pJ O ?_);clear H;intro a H;refine aj ⟨O,?_⟩;exact ay HT Hb hG hv (fun _ _ _ _ _ h=>h) H O
   ·intro au a w G1 _ ah hc hG HT hv;have H:=HT;clear ah;have H:=H.ak (hv 0 20 (hc 0 Y) O) O;have H:=H.ak (hv 2 22 (hc 2 Y) O) O;have Hb:=H.full;have H:=Hb;clear hc;refine kH H (Rc O ?_);clear H;intro a H;refine aj ⟨O,?_⟩;exact ay HT Hb hG hv (fun _ _ _ _ _ h=>h) H O
   ·intro au a w G1 _ ah hc hG HT hv;have H:=HT;clear ah;have H:=H.ak (hv 3 23 (hc 3 Y) O) O;have Hb:=H.full;have H:=Hb;clear hc;refine kH H (Rm O ?_);clear H;intro a H;refine aj ⟨O,?_⟩;exact ay HT Hb hG hv (fun _ _ _ _ _ h=>h) H O
   ·intro au a w G1 _ ah hc hG HT hv;have H:=HT;clear ah;have H:=H.ak (hv 4 24 (hc 4 Y) O) O;have Hb:=H.full;have H:=Hb;clear hc;refine kH H (YR qx (dz c0) O (aK hG q2) ?_);clear H;intro a H;refine aj ⟨O,?_⟩;exact ay HT Hb hG hv (fun _ _ _ _ _ h=>h) H O
   ·intro au a w G1 _ ah hc hG HT hv;have H:=HT;clear ah;have H:=H.ak (hv 4 24 (hc 4 Y) O) O;have Hb:=H.full;have H:=Hb;clear hc;refine kH H (YM (dz c0) O ?_);clear H;intro a H;refine aj ⟨O,?_⟩;exact ay HT Hb hG hv (fun _ _ _ _ _ h=>h) H O
   ·intro au a w G1 _ ah hc hG HT hv;have H:=HT;clear ah;have H:=H.ak (hv 5 25 (hc 5 Y) O) O;have H:=H.ak (hv 6 26 (hc 6 Y) O) O;have H:=H.ak (hv 4 24 (hc 4 Y) O) O;have Hb:=H.full;have H:=Hb;clear hc;obtain ⟨rfl,hx1,hx2,hx3,hx4⟩:=hx V;refine aT pJ yH k H (wg H O O (dz c0)) O O O V O ?_;clear H;intro a H;refine aj ⟨O,?_⟩;exact ay HT Hb hG hv (fun _ _ _ _ _ h=>h) H O
   ·intro au a w G1 _ ah hc hG HT hv;have H:=HT;clear ah;have H:=H.ak (hv 7 27 (hc 7 Y) O) O;have H:=H.ak (hv 4 24 (hc 4 Y) O) O;have Hb:=H.full;have H:=Hb;clear hc;refine kH H (YF EA (dz c0) O ?_);clear H;intro a H;refine aj ⟨O,?_⟩;exact ay HT Hb hG hv (fun _ _ _ _ _ h=>h) H O
   ·intro au a w G1 _ ah hc hG HT hv;have H:=HT;clear ah;have H:=H.ak (hv 8 28 (hc 8 Y) O) O;have H:=H.ak (hv 4 24 (hc 4 Y) O) O;have Hb:=H.full;have H:=Hb;clear hc;obtain ⟨rfl,hx1,hx2,hx3,hx4⟩:=hx V;refine kH H (YR aF (dz c0) O (aK hG hx3) ?_);clear H;intro a H;refine aj ⟨O,?_⟩;exact ay HT Hb hG hv (fun _ _ _ _ _ h=>h) H O
   ·intro au a w G1 _ ah hc hG HT hv;have H:=HT;clear ah;have H:=H.ak (hv 4 24 (hc 4 Y) O) O;have Hb:=H.full;have H:=Hb;clear hc;refine kH H (YR aF (dz c0) O (aK hG q3) ?_);clear H;intro a H;refine aj ⟨O,?_⟩;exact ay HT Hb hG hv (fun _ _ _ _ _ h=>h) H O
   ·intro au a w G1 _ ah hc hG HT hv;have H:=HT;clear ah;have H:=H.ak (hv 9 29 (hc 9 Y) O) O;have H:=H.ak (hv 10 30 (hc 10 Y) O) O;have H:=H.ak (hv 4 24 (hc 4 Y) O) O;have Hb:=H.full;have H:=Hb;clear hc;refine kH H (YC (dz c0) O ?_);clear H;intro a H;refine aj ⟨O,?_⟩;exact ay HT Hb hG hv (fun _ _ _ _ _ h=>h) H O
   ·intro au a w G1 _ ah hc hG HT hv;have H:=HT;clear ah;have H:=H.ak (hv 4 24 (hc 4 Y) O) O;have H:=H.ak (hv 11 31 (hc 11 Y) O) O;have Hb:=H.full;have H:=Hb;clear hc;refine kH H (Pt (dz c0) O ?_);clear H;intro a H;refine aj ⟨O,?_⟩;exact ay HT Hb hG hv (fun _ _ _ _ _ h=>h) H O
   clear H;intro a w G sM H hv;have H:=H.ak (hv 12 32 O O) O;clear hv;refine aj ⟨O,?_⟩;refine aP _ _ ?_;clear aP;refine sH H O (fu c1) ?_;refine kP H (Kc K9 (SR fun _ bL=>aB bL O ?_));clear H K9 bL;intro a H;refine lr H results83 O ?_;have hkl:=fun (h:k < l.length)=>iR h
   exact H.rt (by
    rw [nT,aX,<- hk]
    by_cases h:k < l.length
    ·obtain ⟨-,hx1,hx2,-,-⟩:=hx h;rw [hkl h] at hx1 hx2 |-
     simp only [oM,ku] at hx1 hx2
     dsimp only;rw [hx1,hx2]
     first|rw [aM c1]|rw [aJ c1]|exact absurd h V
    rw [List.getElem?_eq_none V] <;> first|rfl|exact absurd c0 V)
  skip;refine dI gG [[],[],[1],[0,1,2],ra 0 4,ra 0 5,ra 0 5,ra 0 7,ra 0 8,ra 0 9,ra 0 5,ra 0 11,ra 0 12] [] Z [vi k,.slice A l.length c,vi l.length,.bool (decide ((k:Int) < (l.length:Int))),.bool (decide ((k:Int) < (l.length:Int))),undef,undef,undef,undef,undef,undef,undef,.bool false] H (aI ?_ ?_ ?_ ?_ (aI ?_ (gP 4 (fu c0) O O) (gP 4 (fu c0) O O) (gP 4 (fu c0) O O) (aI (gP 4 (fu c0) O O) (gP 4 (fu c0) O O) (gP 4 (fu c0) O O) (gP 4 (fu c0) O O) (iO ?_ fQ)))) ?_
  ·intro au a w G1 _ ah hc hG HT hv;have H:=HT;clear ah;have Hb:=H.full;have H:=Hb;clear hc;refine kH H (Rm O ?_);clear H;intro a H;refine aj ⟨O,?_⟩;exact ay HT Hb hG hv (fun _ _ _ _ _ h=>h) H O
  ·intro au a w G1 _ ah hc hG HT hv;have H:=HT;clear ah;have Hb:=H.full;have H:=Hb;clear hc;refine kH H (Rg qx O (aK hG q2) ?_);clear H;intro a H;refine aj ⟨O,?_⟩;exact ay HT Hb hG hv (fun _ _ _ _ _ h=>h) H O
  ·intro au a w G1 _ ah hc hG HT hv;have H:=HT;clear ah;have H:=H.ak (hv 1 21 (hc 1 Y) O) O;have Hb:=H.full;have H:=Hb;clear hc;refine kH H (Rl pJ O ?_);clear H;intro a H;refine aj ⟨O,?_⟩;exact ay HT Hb hG hv (fun _ _ _ _ _ h=>h) H O
  ·intro au a w G1 _ ah hc hG HT hv;have H:=HT;clear ah;have H:=H.ak (hv 0 20 (hc 0 Y) O) O;have H:=H.ak (hv 2 22 (hc 2 Y) O) O;have Hb:=H.full;have H:=Hb;clear hc;refine kH H (Rc O ?_);clear H;intro a H;refine aj ⟨O,?_⟩;exact ay HT Hb hG hv (fun _ _ _ _ _ h=>h) H O
  ·intro au a w G1 _ ah hc hG HT hv;have H:=HT;clear ah;have H:=H.ak (hv 3 23 (hc 3 Y) O) O;have Hb:=H.full;have H:=Hb;clear hc;refine kH H (Rm O ?_);clear H;intro a H;refine aj ⟨O,?_⟩;exact ay HT Hb hG hv (fun _ _ _ _ _ h=>h) H O
  ·intro au a w G1 _ ah hc hG HT hv;have H:=HT;clear ah;have H:=H.ak (hv 4 24 (hc 4 Y) O) O;have H:=H.ak (hv 11 31 (hc 11 Y) O) O;have Hb:=H.full;have H:=Hb;clear hc;refine kH H (Pf (fu c0) O ?_);clear H;intro a H;refine aj ⟨O,?_⟩;exact ay HT Hb hG hv (fun _ _ _ _ _ h=>h) H O
  clear H;intro a w G sM H hv;have H:=H.ak (hv 12 32 O O) O;clear hv;refine aj ⟨O,?_⟩;refine aP _ _ ?_;clear aP;refine sH H O O ?_;refine kP H (Kc K9 (SR fun _ bI=>aB bI O ?_));clear H K9 bI;intro a H;refine lr H results83 O ?_;have hkl:=fun (h:k < l.length)=>iR h
  exact H.rt (by
   rw [nT,aX,<- hk]
   by_cases h:k < l.length
   ·obtain ⟨-,hx1,hx2,-,-⟩:=hx h;rw [hkl h] at hx1 hx2 |-
    simp only [oM,ku] at hx1 hx2
    dsimp only;rw [hx1,hx2]
    first|rw [aM c1]|rw [aJ c1]|exact absurd h V
   rw [List.getElem?_eq_none V] <;> first|rfl|exact absurd c0 V)
 intro h8 a H
 try have p8:=dF h8
 refine kH H (aO h8 O (Pf h8 O (Kz K3 (Cf O O (Kc K2 (SQ fun _ cB=>?_))))));clear H K3 K2;intro a H;obtain ⟨Ga,hma,IU,H⟩:=H.jd;obtain ⟨Gb,hmb,hb2',H⟩:=H.jd;have hv2:=(hv.mono hma).mono hmb
 have q2:aR Gb b2 0=some (.slice A l.length c):=by unfold aR;rw [hb2'];rfl
 have q3:aR Gb b3 0=some (vi p):=by unfold aR;rw [hmb _ _ IU];rfl
 refine kP H (SC (Rg qx O q2 (Rl pJ O ?_)));clear H;intro a H;refine DC H wn O O ?_;clear H;intro a H;refine s_call NT H wn O (QN _ _ H.ro l.length (yg l p) _ hl (fun i G1 w1 hi hm hG1=>OB q2 q3 hv2 i G1 w1 hi hm hG1)) O ?_;clear H;rintro v19 rV a w rfl mP H;have q2:=aK mP q2;have q3:=aK mP q3;have hv2:=hv2.mono mP;obtain ⟨k,hk⟩:∃ k,k=bs (yg l p) l.length 0 l.length:=⟨_,O⟩;rw [<- hk] at H;refine kH H (bS cB O (SQ fun _ dw=>SQ fun _ dN=>?_));clear H cB;intro a H
 obtain ⟨lo,cl,sb,so,hx⟩:∃ lo cl sb so,k < l.length->A=some ⟨sb,so,none⟩∧l[k]?.map fG.low=some lo∧l[k]?.map fG.cls=some cl∧aR rV sb (so+k*3+0)=some (vi lo)∧aR rV sb (so+k*3+2)=some (vi cl):=by
  by_cases h:k < l.length
  ·obtain ⟨sb,so,h1,h2⟩:=Br hv2 h;exact ⟨_,_,sb,so,fun _=>⟨h1,by rw [iR h];rfl,by rw [iR h];rfl,h2 0 _ rfl,h2 2 _ rfl⟩⟩
  exact ⟨0,0,0,0,fun h'=>absurd h' h⟩
 by_cases c0:(k:Int) < (l.length:Int)
 ·skip
  by_cases c1:lo<=p
  ·skip;refine dI gG [[],[],[1],[0,1,2],ra 0 4,ra 0 5,ra 0 5,ra 0 7,ra 0 8,ra 0 9,ra 0 5,ra 0 11,ra 0 12] [] Z [vi k,.slice A l.length c,vi l.length,.bool (decide ((k:Int) < (l.length:Int))),.bool (decide ((k:Int) < (l.length:Int))),.slice A l.length c,vi k,(aH sb (so+k*3)),(aH sb (so+k*3+0)),vi lo,vi p,.bool (decide (lo<=p)),.bool (decide (lo<=p))] H (aI ?_ ?_ ?_ ?_ (aI ?_ ?_ ?_ ?_ (aI ?_ ?_ ?_ ?_ (iO ?_ fQ)))) ?_
   ·intro au a w G1 _ ah hc hG HT hv;have H:=HT;clear ah;have Hb:=H.full;have H:=Hb;clear hc;refine kH H (Rm O ?_);clear H;intro a H;refine aj ⟨O,?_⟩;exact ay HT Hb hG hv (fun _ _ _ _ _ h=>h) H O
   ·intro au a w G1 _ ah hc hG HT hv;have H:=HT;clear ah;have Hb:=H.full;have H:=Hb;clear hc;refine kH H (Rg qx O (aK hG q2) ?_);clear H;intro a H;refine aj ⟨O,?_⟩;exact ay HT Hb hG hv (fun _ _ _ _ _ h=>h) H O
   ·intro au a w G1 _ ah hc hG HT hv;have H:=HT;clear ah;have H:=H.ak (hv 1 21 (hc 1 Y) O) O;have Hb:=H.full;have H:=Hb;clear hc;refine kH H (Rl pJ O ?_);clear H;intro a H;refine aj ⟨O,?_⟩;exact ay HT Hb hG hv (fun _ _ _ _ _ h=>h) H O
   ·intro au a w G1 _ ah hc hG HT hv;have H:=HT;clear ah;have H:=H.ak (hv 0 20 (hc 0 Y) O) O;have H:=H.ak (hv 2 22 (hc 2 Y) O) O;have Hb:=H.full;have H:=Hb;clear hc;refine kH H (Rc O ?_);clear H;intro a H;refine aj ⟨O,?_⟩;exact ay HT Hb hG hv (fun _ _ _ _ _ h=>h) H O
   ·intro au a w G1 _ ah hc hG HT hv;have H:=HT;clear ah;have H:=H.ak (hv 3 23 (hc 3 Y) O) O;have Hb:=H.full;have H:=Hb;clear hc;refine kH H (Rm O ?_);clear H;intro a H;refine aj ⟨O,?_⟩;exact ay HT Hb hG hv (fun _ _ _ _ _ h=>h) H O
   ·intro au a w G1 _ ah hc hG HT hv;have H:=HT;clear ah;have H:=H.ak (hv 4 24 (hc 4 Y) O) O;have Hb:=H.full;have H:=Hb;clear hc;refine kH H (YR qx (dz c0) O (aK hG q2) ?_);clear H;intro a H;refine aj ⟨O,?_⟩;exact ay HT Hb hG hv (fun _ _ _ _ _ h=>h) H O
   ·intro au a w G1 _ ah hc hG HT hv;have H:=HT;clear ah;have H:=H.ak (hv 4 24 (hc 4 Y) O) O;have Hb:=H.full;have H:=Hb;clear hc;refine kH H (YM (dz c0) O ?_);clear H;intro a H;refine aj ⟨O,?_⟩;exact ay HT Hb hG hv (fun _ _ _ _ _ h=>h) H O
   ·intro au a w G1 _ ah hc hG HT hv;have H:=HT;clear ah;have H:=H.ak (hv 5 25 (hc 5 Y) O) O;have H:=H.ak (hv 6 26 (hc 6 Y) O) O;have H:=H.ak (hv 4 24 (hc 4 Y) O) O;have Hb:=H.full;have H:=Hb;clear hc;obtain ⟨rfl,hx1,hx2,hx3,hx4⟩:=hx V;refine aT pJ yH k H (wg H O O (dz c0)) O O O V O ?_;clear H;intro a H;refine aj ⟨O,?_⟩;exact ay HT Hb hG hv (fun _ _ _ _ _ h=>h) H O
   ·intro au a w G1 _ ah hc hG HT hv;have H:=HT;clear ah;have H:=H.ak (hv 7 27 (hc 7 Y) O) O;have H:=H.ak (hv 4 24 (hc 4 Y) O) O;have Hb:=H.full;have H:=Hb;clear hc;refine kH H (YF EA (dz c0) O ?_);clear H;intro a H;refine aj ⟨O,?_⟩;exact ay HT Hb hG hv (fun _ _ _ _ _ h=>h) H O
   ·intro au a w G1 _ ah hc hG HT hv;have H:=HT;clear ah;have H:=H.ak (hv 8 28 (hc 8 Y) O) O;have H:=H.ak (hv 4 24 (hc 4 Y) O) O;have Hb:=H.full;have H:=Hb;clear hc;obtain ⟨rfl,hx1,hx2,hx3,hx4⟩:=hx V;refine kH H (YR aF (dz c0) O (aK hG hx3) ?_);clear H;intro a H;refine aj ⟨O,?_⟩;exact ay HT Hb hG hv (fun _ _ _ _ _ h=>h) H O
   ·intro au a w G1 _ ah hc hG HT hv;have H:=HT;clear ah;have H:=H.ak (hv 4 24 (hc 4 Y) O) O;have Hb:=H.full;have H:=Hb;clear hc;refine kH H (YR aF (dz c0) O (aK hG q3) ?_);clear H;intro a H;refine aj ⟨O,?_⟩;exact ay HT Hb hG hv (fun _ _ _ _ _ h=>h) H O
   ·intro au a w G1 _ ah hc hG HT hv;have H:=HT;clear ah;have H:=H.ak (hv 9 29 (hc 9 Y) O) O;have H:=H.ak (hv 10 30 (hc 10 Y) O) O;have H:=H.ak (hv 4 24 (hc 4 Y) O) O;have Hb:=H.full;have H:=Hb;clear hc;refine kH H (YC (dz c0) O ?_);clear H;intro a H;refine aj ⟨O,?_⟩;exact ay HT Hb hG hv (fun _ _ _ _ _ h=>h) H O
   ·intro au a w G1 _ ah hc hG HT hv;have H:=HT;clear ah;have H:=H.ak (hv 4 24 (hc 4 Y) O) O;have H:=H.ak (hv 11 31 (hc 11 Y) O) O;have Hb:=H.full;have H:=Hb;clear hc;refine kH H (Pt (dz c0) O ?_);clear H;intro a H;refine aj ⟨O,?_⟩;exact ay HT Hb hG hv (fun _ _ _ _ _ h=>h) H O
   clear H;intro a w G sM H hv;have H:=H.ak (hv 12 32 O O) O;clear hv;refine aj ⟨O,?_⟩;refine dN _ _ ?_;clear dN;refine Cj H O (dz c1) ?_;refine iF (fun _ eP=>?_);obtain ⟨rfl,hx1,hx2,hx3,hx4⟩:=hx V;have q2:=aK sM q2;have hx4:=aK sM hx4;refine kP H (SC (Rg qx O q2 (Rm O ?_)));clear H;intro a H;refine aT pJ yH k H wn O O O V O ?_;clear H;intro a H;refine kH H (Rf NZ O (Rg aF O hx4 (bS eP O ?_)));clear H eP;intro a H;refine lr H results83 O ?_;have hkl:=fun (h:k < l.length)=>iR h
   exact H.rt (by
    rw [nT,aX,<- hk]
    by_cases h:k < l.length
    ·obtain ⟨-,hx1,hx2,-,-⟩:=hx h;rw [hkl h] at hx1 hx2 |-
     simp only [oM,ku] at hx1 hx2
     dsimp only;rw [hx1,hx2]
     first|rw [aM c1]|rw [aJ c1]|exact absurd h V
    rw [List.getElem?_eq_none V] <;> first|rfl|exact absurd c0 V)
  skip;refine dI gG [[],[],[1],[0,1,2],ra 0 4,ra 0 5,ra 0 5,ra 0 7,ra 0 8,ra 0 9,ra 0 5,ra 0 11,ra 0 12] [] Z [vi k,.slice A l.length c,vi l.length,.bool (decide ((k:Int) < (l.length:Int))),.bool (decide ((k:Int) < (l.length:Int))),.slice A l.length c,vi k,(aH sb (so+k*3)),(aH sb (so+k*3+0)),vi lo,vi p,.bool (decide (lo<=p)),.bool (decide (lo<=p))] H (aI ?_ ?_ ?_ ?_ (aI ?_ ?_ ?_ ?_ (aI ?_ ?_ ?_ ?_ (iO ?_ fQ)))) ?_
  ·intro au a w G1 _ ah hc hG HT hv;have H:=HT;clear ah;have Hb:=H.full;have H:=Hb;clear hc;refine kH H (Rm O ?_);clear H;intro a H;refine aj ⟨O,?_⟩;exact ay HT Hb hG hv (fun _ _ _ _ _ h=>h) H O
  ·intro au a w G1 _ ah hc hG HT hv;have H:=HT;clear ah;have Hb:=H.full;have H:=Hb;clear hc;refine kH H (Rg qx O (aK hG q2) ?_);clear H;intro a H;refine aj ⟨O,?_⟩;exact ay HT Hb hG hv (fun _ _ _ _ _ h=>h) H O
  ·intro au a w G1 _ ah hc hG HT hv;have H:=HT;clear ah;have H:=H.ak (hv 1 21 (hc 1 Y) O) O;have Hb:=H.full;have H:=Hb;clear hc;refine kH H (Rl pJ O ?_);clear H;intro a H;refine aj ⟨O,?_⟩;exact ay HT Hb hG hv (fun _ _ _ _ _ h=>h) H O
  ·intro au a w G1 _ ah hc hG HT hv;have H:=HT;clear ah;have H:=H.ak (hv 0 20 (hc 0 Y) O) O;have H:=H.ak (hv 2 22 (hc 2 Y) O) O;have Hb:=H.full;have H:=Hb;clear hc;refine kH H (Rc O ?_);clear H;intro a H;refine aj ⟨O,?_⟩;exact ay HT Hb hG hv (fun _ _ _ _ _ h=>h) H O
  ·intro au a w G1 _ ah hc hG HT hv;have H:=HT;clear ah;have H:=H.ak (hv 3 23 (hc 3 Y) O) O;have Hb:=H.full;have H:=Hb;clear hc;refine kH H (Rm O ?_);clear H;intro a H;refine aj ⟨O,?_⟩;exact ay HT Hb hG hv (fun _ _ _ _ _ h=>h) H O
  ·intro au a w G1 _ ah hc hG HT hv;have H:=HT;clear ah;have H:=H.ak (hv 4 24 (hc 4 Y) O) O;have Hb:=H.full;have H:=Hb;clear hc;refine kH H (YR qx (dz c0) O (aK hG q2) ?_);clear H;intro a H;refine aj ⟨O,?_⟩;exact ay HT Hb hG hv (fun _ _ _ _ _ h=>h) H O
  ·intro au a w G1 _ ah hc hG HT hv;have H:=HT;clear ah;have H:=H.ak (hv 4 24 (hc 4 Y) O) O;have Hb:=H.full;have H:=Hb;clear hc;refine kH H (YM (dz c0) O ?_);clear H;intro a H;refine aj ⟨O,?_⟩;exact ay HT Hb hG hv (fun _ _ _ _ _ h=>h) H O
  ·intro au a w G1 _ ah hc hG HT hv;have H:=HT;clear ah;have H:=H.ak (hv 5 25 (hc 5 Y) O) O;have H:=H.ak (hv 6 26 (hc 6 Y) O) O;have H:=H.ak (hv 4 24 (hc 4 Y) O) O;have Hb:=H.full;have H:=Hb;clear hc;obtain ⟨rfl,hx1,hx2,hx3,hx4⟩:=hx V;refine aT pJ yH k H (wg H O O (dz c0)) O O O V O ?_;clear H;intro a H;refine aj ⟨O,?_⟩;exact ay HT Hb hG hv (fun _ _ _ _ _ h=>h) H O
  ·intro au a w G1 _ ah hc hG HT hv;have H:=HT;clear ah;have H:=H.ak (hv 7 27 (hc 7 Y) O) O;have H:=H.ak (hv 4 24 (hc 4 Y) O) O;have Hb:=H.full;have H:=Hb;clear hc;refine kH H (YF EA (dz c0) O ?_);clear H;intro a H;refine aj ⟨O,?_⟩;exact ay HT Hb hG hv (fun _ _ _ _ _ h=>h) H O
  ·intro au a w G1 _ ah hc hG HT hv;have H:=HT;clear ah;have H:=H.ak (hv 8 28 (hc 8 Y) O) O;have H:=H.ak (hv 4 24 (hc 4 Y) O) O;have Hb:=H.full;have H:=Hb;clear hc;obtain ⟨rfl,hx1,hx2,hx3,hx4⟩:=hx V;refine kH H (YR aF (dz c0) O (aK hG hx3) ?_);clear H;intro a H;refine aj ⟨O,?_⟩;exact ay HT Hb hG hv (fun _ _ _ _ _ h=>h) H O
  ·intro au a w G1 _ ah hc hG HT hv;have H:=HT;clear ah;have H:=H.ak (hv 4 24 (hc 4 Y) O) O;have Hb:=H.full;have H:=Hb;clear hc;refine kH H (YR aF (dz c0) O (aK hG q3) ?_);clear H;intro a H;refine aj ⟨O,?_⟩;exact ay HT Hb hG hv (fun _ _ _ _ _ h=>h) H O
  ·intro au a w G1 _ ah hc hG HT hv;have H:=HT;clear ah;have H:=H.ak (hv 9 29 (hc 9 Y) O) O;have H:=H.ak (hv 10 30 (hc 10 Y) O) O;have H:=H.ak (hv 4 24 (hc 4 Y) O) O;have Hb:=H.full;have H:=Hb;clear hc;refine kH H (YC (dz c0) O ?_);clear H;intro a H;refine aj ⟨O,?_⟩;exact ay HT Hb hG hv (fun _ _ _ _ _ h=>h) H O
  ·intro au a w G1 _ ah hc hG HT hv;have H:=HT;clear ah;have H:=H.ak (hv 4 24 (hc 4 Y) O) O;have H:=H.ak (hv 11 31 (hc 11 Y) O) O;have Hb:=H.full;have H:=Hb;clear hc;refine kH H (Pt (dz c0) O ?_);clear H;intro a H;refine aj ⟨O,?_⟩;exact ay HT Hb hG hv (fun _ _ _ _ _ h=>h) H O
  clear H;intro a w G sM H hv;have H:=H.ak (hv 12 32 O O) O;clear hv;refine aj ⟨O,?_⟩;refine dN _ _ ?_;clear dN;refine sH H O (fu c1) ?_;refine kP H (Kc dw (SR fun _ fM=>aB fM O ?_));clear H dw fM;intro a H;refine lr H results83 O ?_;have hkl:=fun (h:k < l.length)=>iR h
  exact H.rt (by
   rw [nT,aX,<- hk]
   by_cases h:k < l.length
   ·obtain ⟨-,hx1,hx2,-,-⟩:=hx h;rw [hkl h] at hx1 hx2 |-
    simp only [oM,ku] at hx1 hx2
    dsimp only;rw [hx1,hx2]
    first|rw [aM c1]|rw [aJ c1]|exact absurd h V
   rw [List.getElem?_eq_none V] <;> first|rfl|exact absurd c0 V)
 skip;refine dI gG [[],[],[1],[0,1,2],ra 0 4,ra 0 5,ra 0 5,ra 0 7,ra 0 8,ra 0 9,ra 0 5,ra 0 11,ra 0 12] [] Z [vi k,.slice A l.length c,vi l.length,.bool (decide ((k:Int) < (l.length:Int))),.bool (decide ((k:Int) < (l.length:Int))),undef,undef,undef,undef,undef,undef,undef,.bool false] H (aI ?_ ?_ ?_ ?_ (aI ?_ (gP 4 (fu c0) O O) (gP 4 (fu c0) O O) (gP 4 (fu c0) O O) (aI (gP 4 (fu c0) O O) (gP 4 (fu c0) O O) (gP 4 (fu c0) O O) (gP 4 (fu c0) O O) (iO ?_ fQ)))) ?_
 ·intro au a w G1 _ ah hc hG HT hv;have H:=HT;clear ah;have Hb:=H.full;have H:=Hb;clear hc;refine kH H (Rm O ?_);clear H;intro a H;refine aj ⟨O,?_⟩;exact ay HT Hb hG hv (fun _ _ _ _ _ h=>h) H O
 ·intro au a w G1 _ ah hc hG HT hv;have H:=HT;clear ah;have Hb:=H.full;have H:=Hb;clear hc;refine kH H (Rg qx O (aK hG q2) ?_);clear H;intro a H;refine aj ⟨O,?_⟩;exact ay HT Hb hG hv (fun _ _ _ _ _ h=>h) H O
 ·intro au a w G1 _ ah hc hG HT hv;have H:=HT;clear ah;have H:=H.ak (hv 1 21 (hc 1 Y) O) O;have Hb:=H.full;have H:=Hb;clear hc;refine kH H (Rl pJ O ?_);clear H;intro a H;refine aj ⟨O,?_⟩;exact ay HT Hb hG hv (fun _ _ _ _ _ h=>h) H O
 ·intro au a w G1 _ ah hc hG HT hv;have H:=HT;clear ah;have H:=H.ak (hv 0 20 (hc 0 Y) O) O;have H:=H.ak (hv 2 22 (hc 2 Y) O) O;have Hb:=H.full;have H:=Hb;clear hc;refine kH H (Rc O ?_);clear H;intro a H;refine aj ⟨O,?_⟩;exact ay HT Hb hG hv (fun _ _ _ _ _ h=>h) H O
 ·intro au a w G1 _ ah hc hG HT hv;have H:=HT;clear ah;have H:=H.ak (hv 3 23 (hc 3 Y) O) O;have Hb:=H.full;have H:=Hb;clear hc;refine kH H (Rm O ?_);clear H;intro a H;refine aj ⟨O,?_⟩;exact ay HT Hb hG hv (fun _ _ _ _ _ h=>h) H O
 ·intro au a w G1 _ ah hc hG HT hv;have H:=HT;clear ah;have H:=H.ak (hv 4 24 (hc 4 Y) O) O;have H:=H.ak (hv 11 31 (hc 11 Y) O) O;have Hb:=H.full;have H:=Hb;clear hc;refine kH H (Pf (fu c0) O ?_);clear H;intro a H;refine aj ⟨O,?_⟩;exact ay HT Hb hG hv (fun _ _ _ _ _ h=>h) H O
 clear H;intro a w G sM H hv;have H:=H.ak (hv 12 32 O O) O;clear hv;refine aj ⟨O,?_⟩;refine dN _ _ ?_;clear dN;refine sH H O O ?_;refine kP H (Kc dw (SR fun _ fO=>aB fO O ?_));clear H dw fO;intro a H;refine lr H results83 O ?_;have hkl:=fun (h:k < l.length)=>iR h
 exact H.rt (by
  rw [nT,aX,<- hk]
  by_cases h:k < l.length
  ·obtain ⟨-,hx1,hx2,-,-⟩:=hx h;rw [hkl h] at hx1 hx2 |-
   simp only [oM,ku] at hx1 hx2
   dsimp only;rw [hx1,hx2]
   first|rw [aM c1]|rw [aJ c1]|exact absurd h V
  rw [List.getElem?_eq_none V] <;> first|rfl|exact absurd c0 V)
theorem Ev:bX 89:=cu func89 O
theorem NV:bX 90:=cu func90 O
theorem rD:gQ prog 170 0 0:=⟨Z⟩
theorem Ez:gQ prog 170 2 2:=⟨Z⟩
theorem rU:Ty prog 4 1 1 [.bool false] false:=⟨Z,Z⟩
theorem kY:gQ prog 170 3 3:=⟨Z⟩
theorem wC:gQ prog 170 1 1:=⟨Z⟩
def Ep (c:Int):Bool:=decide (c=1∨c=2∨c=3)
theorem Eo (G:GH) (w0:World) (hG:Hold G w0) (c:Int):Calls prog 89 #[vi c] w0 (cO w0 G fun u G'=>u=.bool (Ep c)∧G=G'):=by
 refine eN [(0,_)] func89 O ntmps89 O O hG ?_;intro a H;refine kP H (SR fun _ K1=>aB K1 O (SR fun _ K2=>Rm O (Rc O (Rm O (Sp 5 O ?_ ?_))))) <;> clear H K1
 ·intro h5 a H
  try have p5:=dT h5
  exact kH H (aO h5 O (Pt h5 O (Rm O (aO O O (Pt O O (aB K2 O (LR results89 O fun H=>H.rt ⟨by simp only [Ep];congr 1;first|(rw [decide_eq_decide];omega)|(symm;rw [dH];omega)|(symm;rw [pR];omega),rfl⟩)))))))
 intro h5 a H
 try have p5:=dF h5
 refine kH H (YM h5 O (YC h5 O (Pf h5 O (Rm O (Sp 9 O ?_ ?_))))) <;> clear H
 ·intro h9 a H
  try have p9:=dT h9
  exact kH H (aO h9 O (Pt h9 O (aB K2 O (LR results89 O fun H=>H.rt ⟨by simp only [Ep];congr 1;first|(rw [decide_eq_decide];omega)|(symm;rw [dH];omega)|(symm;rw [pR];omega),rfl⟩))))
 intro h9 a H
 try have p9:=dF h9
 exact kH H (YM h9 O (YC h9 O (Pf h9 O (aB K2 O (LR results89 O fun H=>H.rt ⟨by simp only [Ep];congr 1;first|(rw [decide_eq_decide];omega)|(symm;rw [dH];omega)|(symm;rw [pR];omega),rfl⟩)))))
def sN (a b:Int):Bool:=decide ((a=8∧(b=8∨b=9∨b=11∨b=12))∨((a=11∨a=9)∧(b=9∨b=10))∨((a=12∨a=10)∧b=10))
theorem Ot (G:GH) (w0:World) (hG:Hold G w0) (a b:Int):Calls prog 90 #[vi a,vi b] w0 (cO w0 G fun u G'=>u=.bool (sN a b)∧G=G'):=by
 refine eN [(0,_),(1,_)] func90 O ntmps90 O O hG ?_;intro a H;refine kP H (SR fun _ K1=>aB K1 O (SQ fun _ K2=>SR fun _ K3=>Rm O (Kz K3 (SB (SR fun _ K4=>Rc O (aB K4 O (Cd O ?_ ?_))))))) <;> clear H K1 K3 K4
 ·intro h6 a H
  try have p6:=dT h6
  refine kP H (SR fun _ K5=>Rm O (Rc O (Rm O (Sp 10 O ?_ ?_)))) <;> clear H
  ·intro h10 a H
   try have qm:=dT h10
   exact kH H (aO h10 O (Pt h10 O (Rm O (aO O O (Pt O O (Rm O (aO O O (Pt O O (aB K5 O (LR results90 O fun H=>H.rt ⟨by simp only [sN];congr 1;first|(rw [decide_eq_decide];omega)|(symm;rw [dH];omega)|(symm;rw [pR];omega),rfl⟩))))))))))
  intro h10 a H
  try have qm:=dF h10
  refine kH H (YM h10 O (YC h10 O (Pf h10 O (Rm O (Sp 14 O ?_ ?_))))) <;> clear H
  ·intro fF a H
   try have jY:=dT fF
   exact kH H (aO fF O (Pt fF O (Rm O (aO O O (Pt O O (aB K5 O (LR results90 O fun H=>H.rt ⟨by simp only [sN];congr 1;first|(rw [decide_eq_decide];omega)|(symm;rw [dH];omega)|(symm;rw [pR];omega),rfl⟩)))))))
  intro fF a H
  try have jY:=dF fF
  refine kH H (YM fF O (YC fF O (Pf fF O (Rm O (Sp 18 O ?_ ?_))))) <;> clear H
  ·intro h18 a H
   try have sQ:=dT h18
   exact kH H (aO h18 O (Pt h18 O (aB K5 O (LR results90 O fun H=>H.rt ⟨by simp only [sN];congr 1;first|(rw [decide_eq_decide];omega)|(symm;rw [dH];omega)|(symm;rw [pR];omega),rfl⟩))))
  intro h18 a H
  try have sQ:=dF h18
  exact kH H (YM h18 O (YC h18 O (Pf h18 O (aB K5 O (LR results90 O fun H=>H.rt ⟨by simp only [sN];congr 1;first|(rw [decide_eq_decide];omega)|(symm;rw [dH];omega)|(symm;rw [pR];omega),rfl⟩)))))
 intro h6 a H
 try have p6:=dF h6
 refine kP H (SQ fun _ K6=>SR fun _ K7=>Rc O (aB K7 O (Cd O ?_ ?_))) <;> clear H K7
 ·intro h22 a H
  try have mR:=dT h22
  refine kP H (Kc K6 (Ct O h22 (SR fun _ K8=>Rm O (Rc O (Rm O (Sp 27 O ?_ ?_)))))) <;> clear H K6
  ·intro h27 a H
   try have p27:=dT h27
   exact kH H (aO h27 O (Pt h27 O (aB K8 O (LR results90 O fun H=>H.rt ⟨by simp only [sN];congr 1;first|(rw [decide_eq_decide];omega)|(symm;rw [dH];omega)|(symm;rw [pR];omega),rfl⟩))))
  intro h27 a H
  try have p27:=dF h27
  exact kH H (YM h27 O (YC h27 O (Pf h27 O (aB K8 O (LR results90 O fun H=>H.rt ⟨by simp only [sN];congr 1;first|(rw [decide_eq_decide];omega)|(symm;rw [dH];omega)|(symm;rw [pR];omega),rfl⟩)))))
 intro h22 a H
 try have mR:=dF h22
 refine kP H (SC (Rc O (bS K6 O (Cd O ?_ ?_)))) <;> clear H K6
 ·intro h22 a H
  try have mR:=dT h22
  refine kP H (SR fun _ K9=>Rm O (Rc O (Rm O (Sp 27 O ?_ ?_)))) <;> clear H
  ·intro h27 a H
   try have p27:=dT h27
   exact kH H (aO h27 O (Pt h27 O (aB K9 O (LR results90 O fun H=>H.rt ⟨by simp only [sN];congr 1;first|(rw [decide_eq_decide];omega)|(symm;rw [dH];omega)|(symm;rw [pR];omega),rfl⟩))))
  intro h27 a H
  try have p27:=dF h27
  exact kH H (YM h27 O (YC h27 O (Pf h27 O (aB K9 O (LR results90 O fun H=>H.rt ⟨by simp only [sN];congr 1;first|(rw [decide_eq_decide];omega)|(symm;rw [dH];omega)|(symm;rw [pR];omega),rfl⟩)))))
 intro h22 a H
 try have mR:=dF h22
 refine kP H (SQ fun _ aP=>SR fun _ bH=>Rc O (aB bH O (Cd O ?_ ?_))) <;> clear H bH
 ·intro h31 a H
  try have p31:=dT h31
  exact kP H (Kc aP (Ct O h31 (SR fun _ bL=>Rm O (Rc O (aB bL O (LR results90 O fun H=>H.rt ⟨by simp only [sN];congr 1;first|(rw [decide_eq_decide];omega)|(symm;rw [dH];omega)|(symm;rw [pR];omega),rfl⟩))))))
 intro h31 a H
 try have p31:=dF h31
 refine kP H (SC (Rc O (bS aP O (Cd O ?_ ?_)))) <;> clear H aP
 ·intro h31 a H
  try have p31:=dT h31
  exact kP H (SR fun _ bI=>Rm O (Rc O (aB bI O (LR results90 O fun H=>H.rt ⟨by simp only [sN];congr 1;first|(rw [decide_eq_decide];omega)|(symm;rw [dH];omega)|(symm;rw [pR];omega),rfl⟩))))
 intro h31 a H
 try have p31:=dF h31
 exact kP H (Kc K2 (SR fun _ cB=>aB cB O (LR results90 O fun H=>H.rt ⟨by simp only [sN];congr 1;first|(rw [decide_eq_decide];omega)|(symm;rw [dH];omega)|(symm;rw [pR];omega),rfl⟩)))
structure tT where
 before:Int
 picture:Bool
 Qc:Bool
 om:Int
abbrev bM (b:Nat) (m:tT):Nat × Obj:=(b,.cells #[vi m.before,.bool m.picture,.bool m.Qc,vi m.om] 170 (0,0))
def gU (m:tT) (b:Int):Bool :=
 if m.before=1∧b=2 then false
 else if (m.before=1∨m.before=2∨m.before=3)∨(b=1∨b=2∨b=3) then true
 else if ((m.before=8∧(b=8∨b=9∨b=11∨b=12))∨((m.before=11∨m.before=9)∧(b=9∨b=10))∨((m.before=12∨m.before=10)∧b=10))∨b=4∨b=5∨b=7∨m.before=6 then false
 else if m.before=5∧b=14∧m.Qc=true then false
 else if m.before=13∧b=13∧m.om.tmod 2=1 then false
 else true
def kU (m:tT) (c:Int):tT:=⟨c,decide (c=14) || (decide (c=4) && m.picture),decide (c=5) && m.picture,if c=13 then m.om+1 else 0⟩
set_option maxHeartbeats 4000000 in
theorem TW {G:GH} {w0:World} {bm:Nat} (m:tT) (b:Int) (hO:jS G [bM bm m] w0) :
  Calls prog 84 #[(aH bm 0),vi b] w0 (jT w0 G [bM bm m] fun u G' L'=>G=G'∧L'=[bM bm m]∧u=.bool (gU m b)):=by
 refine nU (N:=64) (T:=[(0,_),(1,_)]) func84 O ntmps84 O O hO ?_;intro a H;refine kP H (SR fun _ K1=>aB K1 O (SR fun _ K2=>Rm O (Rk O (gH rD aF 0 O O (aB K2 O (SQ fun _ K3=>SB (SR fun _ K4=>Rm O (Rc O (Rm O (Sp 13 O ?_ ?_)))))))))) <;> clear H K1 K2
 ·intro jM a H
  try have sP:=dT jM
  first
  | (exfalso;omega)
  | (exact absurd jM Y)
  | (exfalso;omega)
  |skip
   refine kH H (YM jM O (YC jM O (Pt jM O (aB K4 O (Cd O ?_ ?_))))) <;> clear H K4
   ·intro h10 a H
    try have qm:=dT h10
    first
    | (exfalso;omega)
    | (exact absurd h10 Y)
    | (exfalso;omega)
    |skip
     refine kP H (SR fun _ K5=>aB K5 O ?_);clear H K5;intro a H;refine lr H results84 O ?_
     exact H.hp.dO ⟨O,O,by clear H;unfold gU;(repeat' split) <;> first|rfl|(exfalso;omega)|(exfalso;simp_all;done)⟩
   intro h10 a H
   try have qm:=dF h10
   first
   | (exfalso;omega)
   | (exact absurd h10 Y)
   | (exfalso;omega)
   |skip
    refine kP H (SR fun _ K6=>Rm O ?_);clear H;intro a H;refine s_call Ev H wn O (Eo _ _ H.ro m.before) O ?_;clear H;rintro v19 _ a w ⟨rfl,rfl⟩ - H;refine kH H (Rm O (Sp 20 O ?_ ?_)) <;> clear H
    ·intro h20 a H
     try have pq:=dT h20
     first
     | (exfalso;omega)
     | (exact absurd h20 Y)
     | (exfalso;omega)
     |skip
      refine kH H (aO h20 O (Pt h20 O (aB K6 O (Ct O O (SR fun _ K7=>aB K7 O ?_)))));clear H K6 K7;intro a H;refine lr H results84 O ?_
      exact H.hp.dO ⟨O,O,by clear H;unfold gU;(repeat' split) <;> first|rfl|(exfalso;omega)|(exfalso;simp_all;done)⟩
    intro h20 a H
    try have pq:=dF h20
    first
    | (exfalso;omega)
    | (exact absurd h20 Y)
    | (exfalso;omega)
    |skip
     refine kH H (YM h20 O ?_);clear H;intro a H;refine s_call Ev H (wg H O O h20) O (Eo _ _ H.ro b) O ?_;clear H;rintro v22 _ a w ⟨rfl,rfl⟩ - H;refine kH H (Pf h20 O (aB K6 O (Cd O ?_ ?_))) <;> clear H K6
     ·intro dZ a H
      try have lg:=dT dZ
      first
      | (exfalso;omega)
      | (exact absurd dZ Y)
      | (exfalso;omega)
      |skip
       refine kP H (SR fun _ K8=>aB K8 O ?_);clear H K8;intro a H;refine lr H results84 O ?_
       exact H.hp.dO ⟨O,O,by clear H;unfold gU;(repeat' split) <;> first|rfl|(exfalso;omega)|(exfalso;simp_all;done)⟩
     intro dZ a H
     try have lg:=dF dZ
     first
     | (exfalso;omega)
     | (exact absurd dZ Y)
     | (exfalso;omega)
     |skip
      refine kP H (SQ fun _ K9=>SR fun _ aP=>Rm O (Rm O ?_));clear H;intro a H;refine s_call NV H wn O (Ot _ _ H.ro m.before b) O ?_;clear H;rintro v27 _ a w ⟨rfl,rfl⟩ - H;refine kH H (aB aP O (Cd O ?_ ?_)) <;> clear H aP
      ·intro aN a H
       try have fK:=dT aN
       first
       | (exfalso;omega)
       | (exact absurd aN Y)
       | (exfalso;omega)
       |skip
        refine kP H (Kc K9 (Ct O aN (SR fun _ bH=>aB bH O ?_)));clear H K9 bH;intro a H;refine lr H results84 O ?_
        exact H.hp.dO ⟨O,O,by clear H;unfold gU;(repeat' split) <;> first|rfl|(exfalso;omega)|(exfalso;simp_all;done)⟩
      intro aN a H
      try have fK:=dF aN
      first
      | (exfalso;omega)
      | (exact absurd aN Y)
      | (exfalso;omega)
      |skip
       refine kP H (SR fun _ bL=>Rm O (Rc O (aB bL O (Cd O ?_ ?_)))) <;> clear H bL
       ·intro aN a H
        try have fK:=dT aN
        first
        | (exfalso;omega)
        | (exact absurd aN Y)
        | (exfalso;omega)
        |skip
         refine kP H (Kc K9 (Ct O aN (SR fun _ bI=>aB bI O ?_)));clear H K9 bI;intro a H;refine lr H results84 O ?_
         exact H.hp.dO ⟨O,O,by clear H;unfold gU;(repeat' split) <;> first|rfl|(exfalso;omega)|(exfalso;simp_all;done)⟩
       intro aN a H
       try have fK:=dF aN
       first
       | (exfalso;omega)
       | (exact absurd aN Y)
       | (exfalso;omega)
       |skip
        refine kP H (SR fun _ cB=>Rm O (Rc O (aB cB O (Cd O ?_ ?_)))) <;> clear H cB
        ·intro aN a H
         try have fK:=dT aN
         first
         | (exfalso;omega)
         | (exact absurd aN Y)
         | (exfalso;omega)
         |skip
          refine kP H (Kc K9 (Ct O aN (SR fun _ dw=>aB dw O ?_)));clear H K9 dw;intro a H;refine lr H results84 O ?_
          exact H.hp.dO ⟨O,O,by clear H;unfold gU;(repeat' split) <;> first|rfl|(exfalso;omega)|(exfalso;simp_all;done)⟩
        intro aN a H
        try have fK:=dF aN
        first
        | (exfalso;omega)
        | (exact absurd aN Y)
        | (exfalso;omega)
        |skip
         refine kP H (SR fun _ dN=>Rm O (Rc O (aB dN O (Cd O ?_ ?_)))) <;> clear H dN
         ·intro aN a H
          try have fK:=dT aN
          first
          | (exfalso;omega)
          | (exact absurd aN Y)
          | (exfalso;omega)
          |skip
           refine kP H (Kc K9 (Ct O aN (SR fun _ eP=>aB eP O ?_)));clear H K9 eP;intro a H;refine lr H results84 O ?_
           exact H.hp.dO ⟨O,O,by clear H;unfold gU;(repeat' split) <;> first|rfl|(exfalso;omega)|(exfalso;simp_all;done)⟩
         intro aN a H
         try have fK:=dF aN
         first
         | (exfalso;omega)
         | (exact absurd aN Y)
         | (exfalso;omega)
         |skip
          refine kP H (SC (Rm O (Rc O (bS K9 O (Cd O ?_ ?_))))) <;> clear H K9
          ·intro aN a H
           try have fK:=dT aN
           first
           | (exfalso;omega)
           | (exact absurd aN Y)
           | (exfalso;omega)
           |skip
            refine kP H (SR fun _ fM=>aB fM O ?_);clear H fM;intro a H;refine lr H results84 O ?_
            exact H.hp.dO ⟨O,O,by clear H;unfold gU;(repeat' split) <;> first|rfl|(exfalso;omega)|(exfalso;simp_all;done)⟩
          intro aN a H
          try have fK:=dF aN
          first
          | (exfalso;omega)
          | (exact absurd aN Y)
          | (exfalso;omega)
          |skip
           refine kP H (SR fun _ fO=>Rm O (Rc O (Rm O (Sp 39 O ?_ ?_)))) <;> clear H
           ·intro iP a H
            try have p39:=dT iP
            first
            | (exfalso;omega)
            | (exact absurd iP Y)
            | (exfalso;omega)
            |skip
             refine kH H (YM iP O (YC iP O (Pt iP O (Rm O (Sp 43 O ?_ ?_))))) <;> clear H
             ·intro h43 a H
              try have p43:=dT h43
              first
              | (exfalso;omega)
              | (exact absurd h43 Y)
              | (exfalso;omega)
              |skip
               refine kH H (YM h43 O ?_);clear H;intro a H;refine sU H (wg H O O h43) O O ?_;clear H;intro a H;refine kH H (YF Ez h43 O (YO rU 0 h43 O (Pt h43 O (aB fO O (Cd O ?_ ?_))))) <;> clear H fO
               ·intro pX a H
                try have p36:=dT pX
                first
                | (exfalso;omega)
                | (exact absurd pX Y)
                | (exfalso;omega)
                |skip
                 refine kP H (SR fun _ ig=>aB ig O ?_);clear H ig;intro a H;refine lr H results84 O ?_
                 exact H.hp.dO ⟨O,O,by clear H;unfold gU;(repeat' split) <;> first|rfl|(exfalso;omega)|(exfalso;simp_all;done)⟩
               intro pX a H
               try have p36:=dF pX
               first
               | (exfalso;omega)
               | (exact absurd pX Y)
               | (exfalso;omega)
               |skip
                refine kP H (SR fun _ iq=>Rm O (Rc O (Rm O (Sp 52 O ?_ ?_)))) <;> clear H
                ·intro bW a H
                 try have p52:=dT bW
                 first
                 | (exfalso;omega)
                 | (exact absurd bW Y)
                 | (exfalso;omega)
                 |skip
                  refine kH H (YM bW O (YC bW O (Pt bW O (Rm O (Sp 56 O ?_ ?_))))) <;> clear H
                  ·intro bJ a H
                   try have p56:=dT bJ
                   first
                   | (exfalso;omega)
                   | (exact absurd bJ Y)
                   | (exfalso;omega)
                   |skip
                    refine kH H (YM bJ O ?_);clear H;intro a H;refine sU H (wg H O O bJ) O O ?_;clear H;intro a H;refine kH H (YF kY bJ O (YO aF 0 bJ O ?_));clear H;intro a H;refine zN (m.om.tmod 2) H (wg H O O bJ) O O Y O O ?_;clear H;intro a H;refine kH H (YC bJ O (Pt bJ O (aB iq O (Cd O ?_ ?_)))) <;> clear H iq
                    ·intro iy a H
                     try have p49:=dT iy
                     first
                     | (exfalso;omega)
                     | (exact absurd iy Y)
                     | (exfalso;omega)
                     |skip
                      refine kP H (SR fun _ gM=>aB gM O ?_);clear H gM;intro a H;refine lr H results84 O ?_
                      exact H.hp.dO ⟨O,O,by clear H;unfold gU;(repeat' split) <;> first|rfl|(exfalso;omega)|(exfalso;simp_all;done)⟩
                    intro iy a H
                    try have p49:=dF iy
                    first
                    | (exfalso;omega)
                    | (exact absurd iy Y)
                    | (exfalso;omega)
                    |skip
                     refine kP H (Kc K3 (SR fun _ jC=>aB jC O ?_));clear H K3 jC;intro a H;refine lr H results84 O ?_
                     exact H.hp.dO ⟨O,O,by clear H;unfold gU;(repeat' split) <;> first|rfl|(exfalso;omega)|(exfalso;simp_all;done)⟩
                  intro bJ a H
                  try have p56:=dF bJ
                  first
                  | (exfalso;omega)
                  | (exact absurd bJ Y)
                  | (exfalso;omega)
                  |skip
                   refine kH H (aQ bJ O (aQ bJ O (Pf bJ O (aB iq O (Cf O O (Kc K3 (SR fun _ iw=>aB iw O ?_)))))));clear H iq K3 iw;intro a H;refine lr H results84 O ?_
                   exact H.hp.dO ⟨O,O,by clear H;unfold gU;(repeat' split) <;> first|rfl|(exfalso;omega)|(exfalso;simp_all;done)⟩
                intro bW a H
                try have p52:=dF bW
                first
                | (exfalso;omega)
                | (exact absurd bW Y)
                | (exfalso;omega)
                |skip
                 refine kH H (aO bW O (Pf bW O (Rm O (aQ O O (aQ O O (Pf O O (aB iq O (Cf O O (Kc K3 (SR fun _ lu=>aB lu O ?_))))))))));clear H iq K3 lu;intro a H;refine lr H results84 O ?_
                 exact H.hp.dO ⟨O,O,by clear H;unfold gU;(repeat' split) <;> first|rfl|(exfalso;omega)|(exfalso;simp_all;done)⟩
             intro h43 a H
             try have p43:=dF h43
             first
             | (exfalso;omega)
             | (exact absurd h43 Y)
             | (exfalso;omega)
             |skip
              refine kH H (aO h43 O (aO h43 O (Pf h43 O (aB fO O (Cf O O (SR fun _ lX=>Rm O (Rc O (Rm O (Sp 52 O ?_ ?_))))))))) <;> clear H fO
              ·intro bW a H
               try have p52:=dT bW
               first
               | (exfalso;omega)
               | (exact absurd bW Y)
               | (exfalso;omega)
               |skip
                refine kH H (YM bW O (YC bW O (Pt bW O (Rm O (Sp 56 O ?_ ?_))))) <;> clear H
                ·intro bJ a H
                 try have p56:=dT bJ
                 first
                 | (exfalso;omega)
                 | (exact absurd bJ Y)
                 | (exfalso;omega)
                 |skip
                  refine kH H (YM bJ O ?_);clear H;intro a H;refine sU H (wg H O O bJ) O O ?_;clear H;intro a H;refine kH H (YF kY bJ O (YO aF 0 bJ O ?_));clear H;intro a H;refine zN (m.om.tmod 2) H (wg H O O bJ) O O Y O O ?_;clear H;intro a H;refine kH H (YC bJ O (Pt bJ O (aB lX O (Cd O ?_ ?_)))) <;> clear H lX
                  ·intro iy a H
                   try have p49:=dT iy
                   first
                   | (exfalso;omega)
                   | (exact absurd iy Y)
                   | (exfalso;omega)
                   |skip
                    refine kP H (SR fun _ nN=>aB nN O ?_);clear H nN;intro a H;refine lr H results84 O ?_
                    exact H.hp.dO ⟨O,O,by clear H;unfold gU;(repeat' split) <;> first|rfl|(exfalso;omega)|(exfalso;simp_all;done)⟩
                  intro iy a H
                  try have p49:=dF iy
                  first
                  | (exfalso;omega)
                  | (exact absurd iy Y)
                  | (exfalso;omega)
                  |skip
                   refine kP H (Kc K3 (SR fun _ ji=>aB ji O ?_));clear H K3 ji;intro a H;refine lr H results84 O ?_
                   exact H.hp.dO ⟨O,O,by clear H;unfold gU;(repeat' split) <;> first|rfl|(exfalso;omega)|(exfalso;simp_all;done)⟩
                intro bJ a H
                try have p56:=dF bJ
                first
                | (exfalso;omega)
                | (exact absurd bJ Y)
                | (exfalso;omega)
                |skip
                 refine kH H (aQ bJ O (aQ bJ O (Pf bJ O (aB lX O (Cf O O (Kc K3 (SR fun _ mW=>aB mW O ?_)))))));clear H lX K3 mW;intro a H;refine lr H results84 O ?_
                 exact H.hp.dO ⟨O,O,by clear H;unfold gU;(repeat' split) <;> first|rfl|(exfalso;omega)|(exfalso;simp_all;done)⟩
              intro bW a H
              try have p52:=dF bW
              first
              | (exfalso;omega)
              | (exact absurd bW Y)
              | (exfalso;omega)
              |skip
               refine kH H (aO bW O (Pf bW O (Rm O (aQ O O (aQ O O (Pf O O (aB lX O (Cf O O (Kc K3 (SR fun _ mX=>aB mX O ?_))))))))));clear H lX K3 mX;intro a H;refine lr H results84 O ?_
               exact H.hp.dO ⟨O,O,by clear H;unfold gU;(repeat' split) <;> first|rfl|(exfalso;omega)|(exfalso;simp_all;done)⟩
           intro iP a H
           try have p39:=dF iP
           first
           | (exfalso;omega)
           | (exact absurd iP Y)
           | (exfalso;omega)
           |skip
            refine kH H (aO iP O (Pf iP O (Rm O (aO O O (aO O O (Pf O O (aB fO O (Cf O O (SR fun _ lY=>Rm O (Rc O (Rm O (Sp 52 O ?_ ?_)))))))))))) <;> clear H fO
            ·intro bW a H
             try have p52:=dT bW
             first
             | (exfalso;omega)
             | (exact absurd bW Y)
             | (exfalso;omega)
             |skip
              refine kH H (YM bW O (YC bW O (Pt bW O (Rm O (Sp 56 O ?_ ?_))))) <;> clear H
              ·intro bJ a H
               try have p56:=dT bJ
               first
               | (exfalso;omega)
               | (exact absurd bJ Y)
               | (exfalso;omega)
               |skip
                refine kH H (YM bJ O ?_);clear H;intro a H;refine sU H (wg H O O bJ) O O ?_;clear H;intro a H;refine kH H (YF kY bJ O (YO aF 0 bJ O ?_));clear H;intro a H;refine zN (m.om.tmod 2) H (wg H O O bJ) O O Y O O ?_;clear H;intro a H;refine kH H (YC bJ O (Pt bJ O (aB lY O (Cd O ?_ ?_)))) <;> clear H lY
                ·intro iy a H
                 try have p49:=dT iy
                 first
                 | (exfalso;omega)
                 | (exact absurd iy Y)
                 | (exfalso;omega)
                 |skip
                  refine kP H (SR fun _ nO=>aB nO O ?_);clear H nO;intro a H;refine lr H results84 O ?_
                  exact H.hp.dO ⟨O,O,by clear H;unfold gU;(repeat' split) <;> first|rfl|(exfalso;omega)|(exfalso;simp_all;done)⟩
                intro iy a H
                try have p49:=dF iy
                first
                | (exfalso;omega)
                | (exact absurd iy Y)
                | (exfalso;omega)
                |skip
                 refine kP H (Kc K3 (SR fun _ nP=>aB nP O ?_));clear H K3 nP;intro a H;refine lr H results84 O ?_
                 exact H.hp.dO ⟨O,O,by clear H;unfold gU;(repeat' split) <;> first|rfl|(exfalso;omega)|(exfalso;simp_all;done)⟩
              intro bJ a H
              try have p56:=dF bJ
              first
              | (exfalso;omega)
              | (exact absurd bJ Y)
              | (exfalso;omega)
              |skip
               refine kH H (aQ bJ O (aQ bJ O (Pf bJ O (aB lY O (Cf O O (Kc K3 (SR fun _ lJ=>aB lJ O ?_)))))));clear H lY K3 lJ;intro a H;refine lr H results84 O ?_
               exact H.hp.dO ⟨O,O,by clear H;unfold gU;(repeat' split) <;> first|rfl|(exfalso;omega)|(exfalso;simp_all;done)⟩
            intro bW a H
            try have p52:=dF bW
            first
            | (exfalso;omega)
            | (exact absurd bW Y)
            | (exfalso;omega)
            |skip
             refine kH H (aO bW O (Pf bW O (Rm O (aQ O O (aQ O O (Pf O O (aB lY O (Cf O O (Kc K3 (SR fun _ ko=>aB ko O ?_))))))))));clear H lY K3 ko;intro a H;refine lr H results84 O ?_
             exact H.hp.dO ⟨O,O,by clear H;unfold gU;(repeat' split) <;> first|rfl|(exfalso;omega)|(exfalso;simp_all;done)⟩
 intro jM a H
 try have sP:=dF jM
 first
 | (exfalso;omega)
 | (exact absurd jM Y)
 | (exfalso;omega)
 |skip
  refine kH H (aO jM O (Pf jM O (aB K4 O (Cf O O (SR fun _ oH=>Rm O ?_)))));clear H K4;intro a H;refine s_call Ev H wn O (Eo _ _ H.ro m.before) O ?_;clear H;rintro v19 _ a w ⟨rfl,rfl⟩ - H;refine kH H (Rm O (Sp 20 O ?_ ?_)) <;> clear H
  ·intro h20 a H
   try have pq:=dT h20
   first
   | (exfalso;omega)
   | (exact absurd h20 Y)
   | (exfalso;omega)
   |skip
    refine kH H (aO h20 O (Pt h20 O (aB oH O (Ct O O (SR fun _ oI=>aB oI O ?_)))));clear H oH oI;intro a H;refine lr H results84 O ?_
    exact H.hp.dO ⟨O,O,by clear H;unfold gU;(repeat' split) <;> first|rfl|(exfalso;omega)|(exfalso;simp_all;done)⟩
  intro h20 a H
  try have pq:=dF h20
  first
  | (exfalso;omega)
  | (exact absurd h20 Y)
  | (exfalso;omega)
  |skip
   refine kH H (YM h20 O ?_);clear H;intro a H;refine s_call Ev H (wg H O O h20) O (Eo _ _ H.ro b) O ?_;clear H;rintro v22 _ a w ⟨rfl,rfl⟩ - H;refine kH H (Pf h20 O (aB oH O (Cd O ?_ ?_))) <;> clear H oH
   ·intro dZ a H
    try have lg:=dT dZ
    first
    | (exfalso;omega)
    | (exact absurd dZ Y)
    | (exfalso;omega)
    |skip
     refine kP H (SR fun _ qB=>aB qB O ?_);clear H qB;intro a H;refine lr H results84 O ?_
     exact H.hp.dO ⟨O,O,by clear H;unfold gU;(repeat' split) <;> first|rfl|(exfalso;omega)|(exfalso;simp_all;done)⟩
   intro dZ a H
   try have lg:=dF dZ
   first
   | (exfalso;omega)
   | (exact absurd dZ Y)
   | (exfalso;omega)
   |skip
    refine kP H (SQ fun _ lK=>SR fun _ lM=>Rm O (Rm O ?_));clear H;intro a H;refine s_call NV H wn O (Ot _ _ H.ro m.before b) O ?_;clear H;rintro v27 _ a w ⟨rfl,rfl⟩ - H;refine kH H (aB lM O (Cd O ?_ ?_)) <;> clear H lM
    ·intro aN a H
     try have fK:=dT aN
     first
     | (exfalso;omega)
     | (exact absurd aN Y)
     | (exfalso;omega)
     |skip
      refine kP H (Kc lK (Ct O aN (SR fun _ pK=>aB pK O ?_)));clear H lK pK;intro a H;refine lr H results84 O ?_
      exact H.hp.dO ⟨O,O,by clear H;unfold gU;(repeat' split) <;> first|rfl|(exfalso;omega)|(exfalso;simp_all;done)⟩
    intro aN a H
    try have fK:=dF aN
    first
    | (exfalso;omega)
    | (exact absurd aN Y)
    | (exfalso;omega)
    |skip
     refine kP H (SR fun _ tJ=>Rm O (Rc O (aB tJ O (Cd O ?_ ?_)))) <;> clear H tJ
     ·intro aN a H
      try have fK:=dT aN
      first
      | (exfalso;omega)
      | (exact absurd aN Y)
      | (exfalso;omega)
      |skip
       refine kP H (Kc lK (Ct O aN (SR fun _ pO=>aB pO O ?_)));clear H lK pO;intro a H;refine lr H results84 O ?_
       exact H.hp.dO ⟨O,O,by clear H;unfold gU;(repeat' split) <;> first|rfl|(exfalso;omega)|(exfalso;simp_all;done)⟩
     intro aN a H
     try have fK:=dF aN
     first
     | (exfalso;omega)
     | (exact absurd aN Y)
     | (exfalso;omega)
     |skip
      refine kP H (SR fun _ tK=>Rm O (Rc O (aB tK O (Cd O ?_ ?_)))) <;> clear H tK
      ·intro aN a H
       try have fK:=dT aN
       first
       | (exfalso;omega)
       | (exact absurd aN Y)
       | (exfalso;omega)
       |skip
        refine kP H (Kc lK (Ct O aN (SR fun _ tL=>aB tL O ?_)));clear H lK tL;intro a H;refine lr H results84 O ?_
        exact H.hp.dO ⟨O,O,by clear H;unfold gU;(repeat' split) <;> first|rfl|(exfalso;omega)|(exfalso;simp_all;done)⟩
      intro aN a H
      try have fK:=dF aN
      first
      | (exfalso;omega)
      | (exact absurd aN Y)
      | (exfalso;omega)
      |skip
       refine kP H (SR fun _ xw=>Rm O (Rc O (aB xw O (Cd O ?_ ?_)))) <;> clear H xw
       ·intro aN a H
        try have fK:=dT aN
        first
        | (exfalso;omega)
        | (exact absurd aN Y)
        | (exfalso;omega)
        |skip
         refine kP H (Kc lK (Ct O aN (SR fun _ uS=>aB uS O ?_)));clear H lK uS;intro a H;refine lr H results84 O ?_
         exact H.hp.dO ⟨O,O,by clear H;unfold gU;(repeat' split) <;> first|rfl|(exfalso;omega)|(exfalso;simp_all;done)⟩
       intro aN a H
       try have fK:=dF aN
       first
       | (exfalso;omega)
       | (exact absurd aN Y)
       | (exfalso;omega)
       |skip
        refine kP H (SC (Rm O (Rc O (bS lK O (Cd O ?_ ?_))))) <;> clear H lK
        ·intro aN a H
         try have fK:=dT aN
         first
         | (exfalso;omega)
         | (exact absurd aN Y)
         | (exfalso;omega)
         |skip
          refine kP H (SR fun _ xB=>aB xB O ?_);clear H xB;intro a H;refine lr H results84 O ?_
          exact H.hp.dO ⟨O,O,by clear H;unfold gU;(repeat' split) <;> first|rfl|(exfalso;omega)|(exfalso;simp_all;done)⟩
        intro aN a H
        try have fK:=dF aN
        first
        | (exfalso;omega)
        | (exact absurd aN Y)
        | (exfalso;omega)
        |skip
         refine kP H (SR fun _ rX=>Rm O (Rc O (Rm O (Sp 39 O ?_ ?_)))) <;> clear H
         ·intro iP a H
          try have p39:=dT iP
          first
          | (exfalso;omega)
          | (exact absurd iP Y)
          | (exfalso;omega)
          |skip
           refine kH H (YM iP O (YC iP O (Pt iP O (Rm O (Sp 43 O ?_ ?_))))) <;> clear H
           ·intro h43 a H
            try have p43:=dT h43
            first
            | (exfalso;omega)
            | (exact absurd h43 Y)
            | (exfalso;omega)
            |skip
             refine kH H (YM h43 O ?_);clear H;intro a H;refine sU H (wg H O O h43) O O ?_;clear H;intro a H;refine kH H (YF Ez h43 O (YO rU 0 h43 O (Pt h43 O (aB rX O (Cd O ?_ ?_))))) <;> clear H rX
             ·intro pX a H
              try have p36:=dT pX
              first
              | (exfalso;omega)
              | (exact absurd pX Y)
              | (exfalso;omega)
              |skip
               refine kP H (SR fun _ uT=>aB uT O ?_);clear H uT;intro a H;refine lr H results84 O ?_
               exact H.hp.dO ⟨O,O,by clear H;unfold gU;(repeat' split) <;> first|rfl|(exfalso;omega)|(exfalso;simp_all;done)⟩
             intro pX a H
             try have p36:=dF pX
             first
             | (exfalso;omega)
             | (exact absurd pX Y)
             | (exfalso;omega)
             |skip
              refine kP H (SR fun _ rY=>Rm O (Rc O (Rm O (Sp 52 O ?_ ?_)))) <;> clear H
              ·intro bW a H
               try have p52:=dT bW
               first
               | (exfalso;omega)
               | (exact absurd bW Y)
               | (exfalso;omega)
               |skip
                refine kH H (YM bW O (YC bW O (Pt bW O (Rm O (Sp 56 O ?_ ?_))))) <;> clear H
                ·intro bJ a H
                 try have p56:=dT bJ
                 first
                 | (exfalso;omega)
                 | (exact absurd bJ Y)
                 | (exfalso;omega)
                 |skip
                  refine kH H (YM bJ O ?_);clear H;intro a H;refine sU H (wg H O O bJ) O O ?_;clear H;intro a H;refine kH H (YF kY bJ O (YO aF 0 bJ O ?_));clear H;intro a H;refine zN (m.om.tmod 2) H (wg H O O bJ) O O Y O O ?_;clear H;intro a H;refine kH H (YC bJ O (Pt bJ O (aB rY O (Cd O ?_ ?_)))) <;> clear H rY
                  ·intro iy a H
                   try have p49:=dT iy
                   first
                   | (exfalso;omega)
                   | (exact absurd iy Y)
                   | (exfalso;omega)
                   |skip
                    refine kP H (SR fun _ oJ=>aB oJ O ?_);clear H oJ;intro a H;refine lr H results84 O ?_
                    exact H.hp.dO ⟨O,O,by clear H;unfold gU;(repeat' split) <;> first|rfl|(exfalso;omega)|(exfalso;simp_all;done)⟩
                  intro iy a H
                  try have p49:=dF iy
                  first
                  | (exfalso;omega)
                  | (exact absurd iy Y)
                  | (exfalso;omega)
                  |skip
                   refine kP H (Kc K3 (SR fun _ xC=>aB xC O ?_));clear H K3 xC;intro a H;refine lr H results84 O ?_
                   exact H.hp.dO ⟨O,O,by clear H;unfold gU;(repeat' split) <;> first|rfl|(exfalso;omega)|(exfalso;simp_all;done)⟩
                intro bJ a H
                try have p56:=dF bJ
                first
                | (exfalso;omega)
                | (exact absurd bJ Y)
                | (exfalso;omega)
                |skip
                 refine kH H (aQ bJ O (aQ bJ O (Pf bJ O (aB rY O (Cf O O (Kc K3 (SR fun _ xD=>aB xD O ?_)))))));clear H rY K3 xD;intro a H;refine lr H results84 O ?_
                 exact H.hp.dO ⟨O,O,by clear H;unfold gU;(repeat' split) <;> first|rfl|(exfalso;omega)|(exfalso;simp_all;done)⟩
              intro bW a H
              try have p52:=dF bW
              first
              | (exfalso;omega)
              | (exact absurd bW Y)
              | (exfalso;omega)
              |skip
               refine kH H (aO bW O (Pf bW O (Rm O (aQ O O (aQ O O (Pf O O (aB rY O (Cf O O (Kc K3 (SR fun _ xE=>aB xE O ?_))))))))));clear H rY K3 xE;intro a H;refine lr H results84 O ?_
               exact H.hp.dO ⟨O,O,by clear H;unfold gU;(repeat' split) <;> first|rfl|(exfalso;omega)|(exfalso;simp_all;done)⟩
           intro h43 a H
           try have p43:=dF h43
           first
           | (exfalso;omega)
           | (exact absurd h43 Y)
           | (exfalso;omega)
           |skip
            refine kH H (aO h43 O (aO h43 O (Pf h43 O (aB rX O (Cf O O (SR fun _ rZ=>Rm O (Rc O (Rm O (Sp 52 O ?_ ?_))))))))) <;> clear H rX
            ·intro bW a H
             try have p52:=dT bW
             first
             | (exfalso;omega)
             | (exact absurd bW Y)
             | (exfalso;omega)
             |skip
              refine kH H (YM bW O (YC bW O (Pt bW O (Rm O (Sp 56 O ?_ ?_))))) <;> clear H
              ·intro bJ a H
               try have p56:=dT bJ
               first
               | (exfalso;omega)
               | (exact absurd bJ Y)
               | (exfalso;omega)
               |skip
                refine kH H (YM bJ O ?_);clear H;intro a H;refine sU H (wg H O O bJ) O O ?_;clear H;intro a H;refine kH H (YF kY bJ O (YO aF 0 bJ O ?_));clear H;intro a H;refine zN (m.om.tmod 2) H (wg H O O bJ) O O Y O O ?_;clear H;intro a H;refine kH H (YC bJ O (Pt bJ O (aB rZ O (Cd O ?_ ?_)))) <;> clear H rZ
                ·intro iy a H
                 try have p49:=dT iy
                 first
                 | (exfalso;omega)
                 | (exact absurd iy Y)
                 | (exfalso;omega)
                 |skip
                  refine kP H (SR fun _ BO=>aB BO O ?_);clear H BO;intro a H;refine lr H results84 O ?_
                  exact H.hp.dO ⟨O,O,by clear H;unfold gU;(repeat' split) <;> first|rfl|(exfalso;omega)|(exfalso;simp_all;done)⟩
                intro iy a H
                try have p49:=dF iy
                first
                | (exfalso;omega)
                | (exact absurd iy Y)
                | (exfalso;omega)
                |skip
                 refine kP H (Kc K3 (SR fun _ BP=>aB BP O ?_));clear H K3 BP;intro a H;refine lr H results84 O ?_
                 exact H.hp.dO ⟨O,O,by clear H;unfold gU;(repeat' split) <;> first|rfl|(exfalso;omega)|(exfalso;simp_all;done)⟩
              intro bJ a H
              try have p56:=dF bJ
              first
              | (exfalso;omega)
              | (exact absurd bJ Y)
              | (exfalso;omega)
              |skip
               refine kH H (aQ bJ O (aQ bJ O (Pf bJ O (aB rZ O (Cf O O (Kc K3 (SR fun _ BQ=>aB BQ O ?_)))))));clear H rZ K3 BQ;intro a H;refine lr H results84 O ?_
               exact H.hp.dO ⟨O,O,by clear H;unfold gU;(repeat' split) <;> first|rfl|(exfalso;omega)|(exfalso;simp_all;done)⟩
            intro bW a H
            try have p52:=dF bW
            first
            | (exfalso;omega)
            | (exact absurd bW Y)
            | (exfalso;omega)
            |skip
             refine kH H (aO bW O (Pf bW O (Rm O (aQ O O (aQ O O (Pf O O (aB rZ O (Cf O O (Kc K3 (SR fun _ BR=>aB BR O ?_))))))))));clear H rZ K3 BR;intro a H;refine lr H results84 O ?_
             exact H.hp.dO ⟨O,O,by clear H;unfold gU;(repeat' split) <;> first|rfl|(exfalso;omega)|(exfalso;simp_all;done)⟩
         intro iP a H
         try have p39:=dF iP
         first
         | (exfalso;omega)
         | (exact absurd iP Y)
         | (exfalso;omega)
         |skip
          refine kH H (aO iP O (Pf iP O (Rm O (aO O O (aO O O (Pf O O (aB rX O (Cf O O (SR fun _ vT=>Rm O (Rc O (Rm O (Sp 52 O ?_ ?_)))))))))))) <;> clear H rX
          ·intro bW a H
           try have p52:=dT bW
           first
           | (exfalso;omega)
           | (exact absurd bW Y)
           | (exfalso;omega)
           |skip
            refine kH H (YM bW O (YC bW O (Pt bW O (Rm O (Sp 56 O ?_ ?_))))) <;> clear H
            ·intro bJ a H
             try have p56:=dT bJ
             first
             | (exfalso;omega)
             | (exact absurd bJ Y)
             | (exfalso;omega)
             |skip
              refine kH H (YM bJ O ?_);clear H;intro a H;refine sU H (wg H O O bJ) O O ?_;clear H;intro a H;refine kH H (YF kY bJ O (YO aF 0 bJ O ?_));clear H;intro a H;refine zN (m.om.tmod 2) H (wg H O O bJ) O O Y O O ?_;clear H;intro a H;refine kH H (YC bJ O (Pt bJ O (aB vT O (Cd O ?_ ?_)))) <;> clear H vT
              ·intro iy a H
               try have p49:=dT iy
               first
               | (exfalso;omega)
               | (exact absurd iy Y)
               | (exfalso;omega)
               |skip
                refine kP H (SR fun _ BS=>aB BS O ?_);clear H BS;intro a H;refine lr H results84 O ?_
                exact H.hp.dO ⟨O,O,by clear H;unfold gU;(repeat' split) <;> first|rfl|(exfalso;omega)|(exfalso;simp_all;done)⟩
              intro iy a H
              try have p49:=dF iy
              first
              | (exfalso;omega)
              | (exact absurd iy Y)
              | (exfalso;omega)
              |skip
               refine kP H (Kc K3 (SR fun _ qV=>aB qV O ?_));clear H K3 qV;intro a H;refine lr H results84 O ?_
               exact H.hp.dO ⟨O,O,by clear H;unfold gU;(repeat' split) <;> first|rfl|(exfalso;omega)|(exfalso;simp_all;done)⟩
            intro bJ a H
            try have p56:=dF bJ
            first
            | (exfalso;omega)
            | (exact absurd bJ Y)
            | (exfalso;omega)
            |skip
             refine kH H (aQ bJ O (aQ bJ O (Pf bJ O (aB vT O (Cf O O (Kc K3 (SR fun _ BU=>aB BU O ?_)))))));clear H vT K3 BU;intro a H;refine lr H results84 O ?_
             exact H.hp.dO ⟨O,O,by clear H;unfold gU;(repeat' split) <;> first|rfl|(exfalso;omega)|(exfalso;simp_all;done)⟩
          intro bW a H
          try have p52:=dF bW
          first
          | (exfalso;omega)
          | (exact absurd bW Y)
          | (exfalso;omega)
          |skip
           refine kH H (aO bW O (Pf bW O (Rm O (aQ O O (aQ O O (Pf O O (aB vT O (Cf O O (Kc K3 (SR fun _ BX=>aB BX O ?_))))))))));clear H vT K3 BX;intro a H;refine lr H results84 O ?_
           exact H.hp.dO ⟨O,O,by clear H;unfold gU;(repeat' split) <;> first|rfl|(exfalso;omega)|(exfalso;simp_all;done)⟩
theorem Bv {G:GH} {w0:World} {bm:Nat} (m:tT) (c:Int) (hO:jS G [bM bm m] w0) (hr:0<=m.om∧m.om<=4294967296) :
  Calls prog 85 #[(aH bm 0),vi c] w0 (jT w0 G [bM bm m] fun u G' L'=>G=G'∧L'=[bM bm (kU m c)]):=by
 refine nU (N:=46) (T:=[(0,_),(1,_)]) func85 O ntmps85 O O hO ?_;intro a H;refine kP H (SR fun _ K1=>Rm O (Rm O (Rc O (Rm O (Sp 7 O ?_ ?_))))) <;> clear H
 ·intro h7 a H
  try have p7:=dT h7
  first
  | (exfalso;omega)
  | (exact absurd h7 Y)
  | (exfalso;omega)
  |skip
   refine kH H (YM h7 O ?_);clear H;intro a H;refine sU H (wg H O O h7) O O ?_;clear H;intro a H;refine kH H (YF wC h7 O (YO rU 0 h7 O (Pt h7 O (Rk O (Rf Ez O ?_)))));clear H;intro a H;refine eO rU 0 (vs:=[_]) H wn O ?_;clear H;intro w H;refine K1 _ _ ?_;clear K1;refine kP H (SR fun _ K2=>Rm O (Rm O (Rc O (Rm O (Sp 18 O ?_ ?_))))) <;> clear H
   ·intro h18 a H
    try have sQ:=dT h18
    first
    | (exfalso;omega)
    | (exact absurd h18 Y)
    | (exfalso;omega)
    |skip
     refine kH H (aQ h18 O (Ku O (Ku O (Ku O (Ku O (Ks h18 O (Pt h18 O (Rk O (Rf wC O ?_)))))))));clear H;intro a H;refine eO rU 0 (vs:=[_]) H wn O ?_;clear H;intro w H;refine K2 _ _ ?_;clear K2;refine kP H (SQ fun _ K3=>SR fun _ K4=>Rm O (Rc O (Kz K4 (Cd O ?_ ?_)))) <;> clear H K4
     ·intro h31 a H
      try have p31:=dT h31
      first
      | (exfalso;omega)
      | (exact absurd h31 Y)
      | (exfalso;omega)
      |skip
       refine kP H (SC (Rm O (Rk O (gH kY aF 0 O O (Rd O (Rk O (Rf kY O ?_)))))));clear H;intro a H;refine eO aF 0 (vs:=[_]) H wn O ?_;clear H;intro w H;refine kH H (Kn K3 (SC (Rm O (Rm O (Rk O (Rf rD O ?_))))));clear H K3;intro a H;refine eO aF 0 (vs:=[_]) H wn O ?_;clear H;intro w H;refine aj ?_;refine (leave0 H results85 ?_).2;exact H.hp.dO ⟨O,by simp [kU, *]⟩
     intro h31 a H
     try have p31:=dF h31
     first
     | (exfalso;omega)
     | (exact absurd h31 Y)
     | (exfalso;omega)
     |skip
      refine kP H (SC (Rm O (Rk O (Rf kY O ?_))));clear H;intro a H;refine eO aF 0 (vs:=[_]) H wn O ?_;clear H;intro w H;refine kH H (Kn K3 (SC (Rm O (Rm O (Rk O (Rf rD O ?_))))));clear H K3;intro a H;refine eO aF 0 (vs:=[_]) H wn O ?_;clear H;intro w H;refine aj ?_;refine (leave0 H results85 ?_).2;exact H.hp.dO ⟨O,by simp [kU, *]⟩
   intro h18 a H
   try have sQ:=dF h18
   first
   | (exfalso;omega)
   | (exact absurd h18 Y)
   | (exfalso;omega)
   |skip
    refine kH H (YM h18 O (YC h18 O (YM h18 O (Sp 21 O ?_ ?_)))) <;> clear H
    ·intro h21 a H
     try have mD:=dT h21
     first
     | (exfalso;omega)
     | (exact absurd h21 Y)
     | (exfalso;omega)
     |skip
      refine kH H (YM h21 O ?_);clear H;intro a H;refine sU H (wg H O O h21) O O ?_;clear H;intro a H;refine kH H (YF wC h21 O (YO rU 0 h21 O (PT h18 h21 O (Pf h18 O (Rk O (Rf wC O ?_))))));clear H;intro a H;refine eO rU 0 (vs:=[_]) H wn O ?_;clear H;intro w H;refine K2 _ _ ?_;clear K2;refine kP H (SQ fun _ K5=>SR fun _ K6=>Rm O (Rc O (Kz K6 (Cd O ?_ ?_)))) <;> clear H K6
      ·intro h31 a H
       try have p31:=dT h31
       first
       | (exfalso;omega)
       | (exact absurd h31 Y)
       | (exfalso;omega)
       |skip
        refine kP H (SC (Rm O (Rk O (gH kY aF 0 O O (Rd O (Rk O (Rf kY O ?_)))))));clear H;intro a H;refine eO aF 0 (vs:=[_]) H wn O ?_;clear H;intro w H;refine kH H (Kn K5 (SC (Rm O (Rm O (Rk O (Rf rD O ?_))))));clear H K5;intro a H;refine eO aF 0 (vs:=[_]) H wn O ?_;clear H;intro w H;refine aj ?_;refine (leave0 H results85 ?_).2;exact H.hp.dO ⟨O,by simp [kU, *]⟩
      intro h31 a H
      try have p31:=dF h31
      first
      | (exfalso;omega)
      | (exact absurd h31 Y)
      | (exfalso;omega)
      |skip
       refine kP H (SC (Rm O (Rk O (Rf kY O ?_))));clear H;intro a H;refine eO aF 0 (vs:=[_]) H wn O ?_;clear H;intro w H;refine kH H (Kn K5 (SC (Rm O (Rm O (Rk O (Rf rD O ?_))))));clear H K5;intro a H;refine eO aF 0 (vs:=[_]) H wn O ?_;clear H;intro w H;refine aj ?_;refine (leave0 H results85 ?_).2;exact H.hp.dO ⟨O,by simp [kU, *]⟩
    intro h21 a H
    try have mD:=dF h21
    first
    | (exfalso;omega)
    | (exact absurd h21 Y)
    | (exfalso;omega)
    |skip
     refine kH H (aO h21 O (aO h21 O (PF h18 h21 O (Pf h18 O (Rk O (Rf wC O ?_))))));clear H;intro a H;refine eO rU 0 (vs:=[_]) H wn O ?_;clear H;intro w H;refine K2 _ _ ?_;clear K2;refine kP H (SQ fun _ K7=>SR fun _ K8=>Rm O (Rc O (Kz K8 (Cd O ?_ ?_)))) <;> clear H K8
     ·intro h31 a H
      try have p31:=dT h31
      first
      | (exfalso;omega)
      | (exact absurd h31 Y)
      | (exfalso;omega)
      |skip
       refine kP H (SC (Rm O (Rk O (gH kY aF 0 O O (Rd O (Rk O (Rf kY O ?_)))))));clear H;intro a H;refine eO aF 0 (vs:=[_]) H wn O ?_;clear H;intro w H;refine kH H (Kn K7 (SC (Rm O (Rm O (Rk O (Rf rD O ?_))))));clear H K7;intro a H;refine eO aF 0 (vs:=[_]) H wn O ?_;clear H;intro w H;refine aj ?_;refine (leave0 H results85 ?_).2;exact H.hp.dO ⟨O,by simp [kU, *]⟩
     intro h31 a H
     try have p31:=dF h31
     first
     | (exfalso;omega)
     | (exact absurd h31 Y)
     | (exfalso;omega)
     |skip
      refine kP H (SC (Rm O (Rk O (Rf kY O ?_))));clear H;intro a H;refine eO aF 0 (vs:=[_]) H wn O ?_;clear H;intro w H;refine kH H (Kn K7 (SC (Rm O (Rm O (Rk O (Rf rD O ?_))))));clear H K7;intro a H;refine eO aF 0 (vs:=[_]) H wn O ?_;clear H;intro w H;refine aj ?_;refine (leave0 H results85 ?_).2;exact H.hp.dO ⟨O,by simp [kU, *]⟩
 intro h7 a H
 try have p7:=dF h7
 first
 | (exfalso;omega)
 | (exact absurd h7 Y)
 | (exfalso;omega)
 |skip
  refine kH H (aO h7 O (aO h7 O (Pf h7 O (Rk O (Rf Ez O ?_)))));clear H;intro a H;refine eO rU 0 (vs:=[_]) H wn O ?_;clear H;intro w H;refine K1 _ _ ?_;clear K1;refine kP H (SR fun _ K9=>Rm O (Rm O (Rc O (Rm O (Sp 18 O ?_ ?_))))) <;> clear H
  ·intro h18 a H
   try have sQ:=dT h18
   first
   | (exfalso;omega)
   | (exact absurd h18 Y)
   | (exfalso;omega)
   |skip
    refine kH H (aQ h18 O (Ku O (Ku O (Ku O (Ku O (Ks h18 O (Pt h18 O (Rk O (Rf wC O ?_)))))))));clear H;intro a H;refine eO rU 0 (vs:=[_]) H wn O ?_;clear H;intro w H;refine K9 _ _ ?_;clear K9;refine kP H (SQ fun _ aP=>SR fun _ bH=>Rm O (Rc O (Kz bH (Cd O ?_ ?_)))) <;> clear H bH
    ·intro h31 a H
     try have p31:=dT h31
     first
     | (exfalso;omega)
     | (exact absurd h31 Y)
     | (exfalso;omega)
     |skip
      refine kP H (SC (Rm O (Rk O (gH kY aF 0 O O (Rd O (Rk O (Rf kY O ?_)))))));clear H;intro a H;refine eO aF 0 (vs:=[_]) H wn O ?_;clear H;intro w H;refine kH H (Kn aP (SC (Rm O (Rm O (Rk O (Rf rD O ?_))))));clear H aP;intro a H;refine eO aF 0 (vs:=[_]) H wn O ?_;clear H;intro w H;refine aj ?_;refine (leave0 H results85 ?_).2;exact H.hp.dO ⟨O,by simp [kU, *]⟩
    intro h31 a H
    try have p31:=dF h31
    first
    | (exfalso;omega)
    | (exact absurd h31 Y)
    | (exfalso;omega)
    |skip
     refine kP H (SC (Rm O (Rk O (Rf kY O ?_))));clear H;intro a H;refine eO aF 0 (vs:=[_]) H wn O ?_;clear H;intro w H;refine kH H (Kn aP (SC (Rm O (Rm O (Rk O (Rf rD O ?_))))));clear H aP;intro a H;refine eO aF 0 (vs:=[_]) H wn O ?_;clear H;intro w H;refine aj ?_;refine (leave0 H results85 ?_).2;exact H.hp.dO ⟨O,by simp [kU, *]⟩
  intro h18 a H
  try have sQ:=dF h18
  first
  | (exfalso;omega)
  | (exact absurd h18 Y)
  | (exfalso;omega)
  |skip
   refine kH H (YM h18 O (YC h18 O (YM h18 O (Sp 21 O ?_ ?_)))) <;> clear H
   ·intro h21 a H
    try have mD:=dT h21
    first
    | (exfalso;omega)
    | (exact absurd h21 Y)
    | (exfalso;omega)
    |skip
     refine kH H (YM h21 O ?_);clear H;intro a H;refine sU H (wg H O O h21) O O ?_;clear H;intro a H;refine kH H (YF wC h21 O (YO rU 0 h21 O (PT h18 h21 O (Pf h18 O (Rk O (Rf wC O ?_))))));clear H;intro a H;refine eO rU 0 (vs:=[_]) H wn O ?_;clear H;intro w H;refine K9 _ _ ?_;clear K9;refine kP H (SQ fun _ bL=>SR fun _ bI=>Rm O (Rc O (Kz bI (Cd O ?_ ?_)))) <;> clear H bI
     ·intro h31 a H
      try have p31:=dT h31
      first
      | (exfalso;omega)
      | (exact absurd h31 Y)
      | (exfalso;omega)
      |skip
       refine kP H (SC (Rm O (Rk O (gH kY aF 0 O O (Rd O (Rk O (Rf kY O ?_)))))));clear H;intro a H;refine eO aF 0 (vs:=[_]) H wn O ?_;clear H;intro w H;refine kH H (Kn bL (SC (Rm O (Rm O (Rk O (Rf rD O ?_))))));clear H bL;intro a H;refine eO aF 0 (vs:=[_]) H wn O ?_;clear H;intro w H;refine aj ?_;refine (leave0 H results85 ?_).2;exact H.hp.dO ⟨O,by simp [kU, *]⟩
     intro h31 a H
     try have p31:=dF h31
     first
     | (exfalso;omega)
     | (exact absurd h31 Y)
     | (exfalso;omega)
     |skip
      refine kP H (SC (Rm O (Rk O (Rf kY O ?_))));clear H;intro a H;refine eO aF 0 (vs:=[_]) H wn O ?_;clear H;intro w H;refine kH H (Kn bL (SC (Rm O (Rm O (Rk O (Rf rD O ?_))))));clear H bL;intro a H;refine eO aF 0 (vs:=[_]) H wn O ?_;clear H;intro w H;refine aj ?_;refine (leave0 H results85 ?_).2;exact H.hp.dO ⟨O,by simp [kU, *]⟩
   intro h21 a H
   try have mD:=dF h21
   first
   | (exfalso;omega)
   | (exact absurd h21 Y)
   | (exfalso;omega)
   |skip
    refine kH H (aO h21 O (aO h21 O (PF h18 h21 O (Pf h18 O (Rk O (Rf wC O ?_))))));clear H;intro a H;refine eO rU 0 (vs:=[_]) H wn O ?_;clear H;intro w H;refine K9 _ _ ?_;clear K9;refine kP H (SQ fun _ cB=>SR fun _ dw=>Rm O (Rc O (Kz dw (Cd O ?_ ?_)))) <;> clear H dw
    ·intro h31 a H
     try have p31:=dT h31
     first
     | (exfalso;omega)
     | (exact absurd h31 Y)
     | (exfalso;omega)
     |skip
      refine kP H (SC (Rm O (Rk O (gH kY aF 0 O O (Rd O (Rk O (Rf kY O ?_)))))));clear H;intro a H;refine eO aF 0 (vs:=[_]) H wn O ?_;clear H;intro w H;refine kH H (Kn cB (SC (Rm O (Rm O (Rk O (Rf rD O ?_))))));clear H cB;intro a H;refine eO aF 0 (vs:=[_]) H wn O ?_;clear H;intro w H;refine aj ?_;refine (leave0 H results85 ?_).2;exact H.hp.dO ⟨O,by simp [kU, *]⟩
    intro h31 a H
    try have p31:=dF h31
    first
    | (exfalso;omega)
    | (exact absurd h31 Y)
    | (exfalso;omega)
    |skip
     refine kP H (SC (Rm O (Rk O (Rf kY O ?_))));clear H;intro a H;refine eO aF 0 (vs:=[_]) H wn O ?_;clear H;intro w H;refine kH H (Kn cB (SC (Rm O (Rm O (Rk O (Rf rD O ?_))))));clear H cB;intro a H;refine eO aF 0 (vs:=[_]) H wn O ?_;clear H;intro w H;refine aj ?_;refine (leave0 H results85 ?_).2;exact H.hp.dO ⟨O,by simp [kU, *]⟩
theorem ext_size {s:ByteArray} {k:Nat}:(s.extract k s.size).size=s.size - k:=by simp
theorem Wt {s:ByteArray} {k:Nat} (h:k < s.size) (h2:0 < (s.extract k s.size).size):(s.extract k s.size)[0]'h2=s[k]:=by
 rw [ByteArray.getElem_extract];rfl
theorem Wu {s:ByteArray} {k:Nat} (h:k<=s.size):(s.extract k s.size).extract 1 (s.extract k s.size).size=s.extract (k+1) s.size:=by
 rw [ext_size,ByteArray.extract_extract]
 congr 1
 omega
theorem acN (G:GH) (w0:World) (hG:Hold G w0) (s:ByteArray) (hs:s.size<=8) (ha:∀ i (h:i < s.size),s[i].toNat < 128):Calls prog 72 #[.string s] w0 (cO w0 G fun u G'=>u=.bool true∧G=G'):=by
 refine eN [(0,_)] func72 O ntmps72 O O hG ?_;intro a H;refine kP H (SR fun _ K1=>Ra O ?_);clear H;intro a H;rw [show Value.string s=Value.string (s.extract 0 s.size) by rw [ByteArray.extract_zero_size]] at H;refine K1 _ _ ?_;clear K1;refine iF (fun _ K2=>?_);refine xO ?_;skip;refine eG (ι:=Nat) (Tc:=[]) (Lc:=[]) (fun gh=>[(0,.string (s.extract gh s.size))]) (fun gh=>[]) (fun gh=>G) (fun gh=>gh<=s.size) (fun gh=>s.size - gh) (0) (by exact H.sub ⟨O,aL⟩) ?_ ?_
 ·exact dU _
 clear H;intro k a w hI H;skip;dsimp only [lca,dB] at H;refine kP H (SQ fun _ K3=>SR fun _ K4=>Rm O (Rv jA O ?_));clear H;intro a H;rw [ext_size] at H;refine kH H (Rc O (Kz K4 (Cd O ?_ ?_))) <;> clear H K4
 ·intro h9 a H
  try have p9:=dT h9
  have hk:k < s.size:=by omega
  have hb:=Wt (s:=s) (k:=k) hk (by rw [ext_size];omega);have hb2:=ha k hk;refine kP H (Kc K3 (SB (SR fun _ K5=>Rm O ?_)));clear H K3;intro a H;refine zL 0 jA H wn O O O (by rw [ext_size];omega) rfl ?_;clear H;intro a H;rw [hb] at H;refine kH H (aB K5 O (SQ fun _ K6=>SR fun _ K7=>Rm O (Rc O (Kz K7 (Cd O ?_ ?_))))) <;> clear H K5 K7
  ·intro jM a H
   try have sP:=dT jM
   refine kP H (SR fun _ K8=>Rm O ?_);clear H;intro a H;refine QJ 1 jA H wn O O O (by rw [ext_size];omega) rfl ?_;clear H;intro a H;rw [Wu V] at H;refine kH H (aB K8 O (SQ fun _ K9=>SR fun _ aP=>Rm O (Rv jA O ?_)));clear H K8;intro a H;rw [ext_size] at H;refine kH H (Rc O (Rm O (Sp 19 O ?_ ?_))) <;> clear H
   ·intro h19 a H
    try have Fw:=dT h19
    exact absurd Fw V
   intro h19 a H
   try have Fw:=dF h19
   refine kH H (aO h19 O (aO h19 O (Pf h19 O (Kz aP (Cf O O (Kc K9 ?_))))));clear H aP K9;intro a H;refine dD ?_;refine bg ((k+1)) (by exact H.sub ⟨O,aL⟩) ?_
   omega
  intro jM a H
  try have sP:=dF jM
  exact absurd sP V
 intro h9 a H
 refine dD ?_;refine K2 _ _ ?_;clear K2;exact kP H (SR fun _ bH=>aB bH O (LR results72 O fun H=>H.rt ⟨O,O⟩))
def RX:Go.Shelf.Ren:=⟨fun|196=>72|259=>80|n=>n,fun|0=>0|3=>3|4=>4|5=>5|9=>9|12=>12|46=>136|53=>175|119=>162|138=>164|139=>165|n=>n,fun|3=>0|4=>1|n=>n⟩
theorem RU:Go.Proofs.Lays.n196 prog RX where
 mixed:=by kernel_rfl
 f196:=func72.trans (jD some Z)
 f259:=func80.trans (jD some Z)
 t0:=underlying0
 a0:=isAgg0
 z0:=sizeOf0
 v0:=zeroValue0
 t3:=underlying3
 a3:=isAgg3
 z3:=sizeOf3
 v3:=zeroValue3
 t4:=underlying4
 a4:=isAgg4
 z4:=sizeOf4
 v4:=zeroValue4
 t5:=underlying5
 a5:=isAgg5
 z5:=sizeOf5
 v5:=zeroValue5
 t9:=underlying9
 a9:=isAgg9
 z9:=sizeOf9
 v9:=zeroValue9
 t12:=underlying12
 a12:=isAgg12
 z12:=sizeOf12
 v12:=zeroValue12
 t46:=underlying136
 a46:=isAgg136
 z46:=sizeOf136
 v46:=zeroValue136
 t53:=underlying175
 a53:=isAgg175
 z53:=sizeOf175
 v53:=zeroValue175
 t119:=underlying162
 a119:=isAgg162
 z119:=sizeOf162
 t138:=underlying164
 a138:=isAgg164
 z138:=sizeOf164
 v138:=zeroValue164
 t139:=underlying165
 a139:=isAgg165
 z139:=sizeOf165
 v139:=zeroValue165
 g3:=by kernel_rfl
 g4:=by kernel_rfl
structure vW (G:GH):Prop where
 first:∀ c,c < 256->aR G 0 c=some (.int .u8 (Go.Lib.firstT c))
 acc:∀ i,i < 16->aR G 1 (2*i)=some (.int .u8 (Go.Lib.accLo i))∧aR G 1 (2*i+1)=some (.int .u8 (Go.Lib.accHi i))
theorem vW.at {G:GH} {w:World} (h:vW G) (hG:Hold G w):Go.Lib.Utf8Tabs 0 1 w:=by
 have hp:∀ b o v,aR G b o=some v->w.cell? ⟨b,o,none⟩=some v:=fun b o v hv=>by
  unfold aR at hv
  split at hv
  ·rename_i c e f he
   simp only [World.cell?,hG b _ he]
   exact hv
  cases hv
 exact ⟨fun c hc=>hp _ _ _ (h.first c hc),fun i hi=>⟨hp _ _ _ (h.acc i hi).1,hp _ _ _ (h.acc i hi).2⟩⟩
theorem acQ (G:GH) (w0:World) (hG:Hold G w0) (ht:vW G) (s:ByteArray) (hs:s.size<=1073741824):Calls prog 72 #[.string s] w0 (cO w0 G fun u G'=>u=.bool (Go.Lib.validD s.data.toList)∧G=G'):=by
 have h:=Any.utf8_ValidString RU s w0 V (ht.at hG);refine Calls.mono h ?_;rintro e w' ⟨rfl,hb⟩;refine ⟨_,G,O,hb,⟨fun _ _ h=>h,fun _ _ h=>.inl h,fun k o hk=>?_⟩,O,O⟩;have h1:=hG k o hk;rw [hb.block k (Array.getElem?_eq_some_iff.1 h1).1];exact h1
section
section
variable {P:Program} {N:Nat} {D:List Deferred} {w0 w w':World} {F:Nat->Prop} {G0 G G':GH} {L L' Li Lo:OL} {T:List (Nat × av)} {a a':Act} {Q:Exit->Act->World->Prop}
theorem St.cast (h:St N D w0 F G0 G L T a w) (e:L=L'):St N D w0 F G0 G L' T a w:=e ▸ h
theorem St.assoc {A B C:OL} (h:St N D w0 F G0 G ((A++B)++C) T a w):St N D w0 F G0 G (A++(B++C)) T a w:=h.cast (nR _ _ _)
theorem St.un {A B C:OL} (h:St N D w0 F G0 G (A++(B++C)) T a w):St N D w0 F G0 G ((A++B)++C) T a w:=h.cast (nR _ _ _).symm
theorem Uk {ι κ:Type} {Lc:OL} {uq:Operand} {ps:List Nat} {assign body:Code} {gf:FuncId} {caps:List av} {xs:List AP} {Gi:GH}
  (Lv:Nat->ι->OL) (Lt:Nat->ι->OL) (inv:Nat->ι->GH->Prop) (cx:κ->Code) (Lx yM:κ->OL) (uE:κ->GH->Prop) (i0:ι)
  (H:St N D w0 F G0 G (Lc++Lv 0 i0++Lt 0 i0) T a w) (hg:ev T uq=some (.func (.func gf) #[] caps.toArray)) (en:∀ args w,(callFunc gf args).run P w=.ok (.enter gf args) w) (hit:Iter P Gi (.func (.func gf) #[] caps.toArray) xs) (hGi:∀ b o,Gi b=some o->G b=some o)
  (hps:ps.all (Nat.blt · N)=true) (hlen:∀ k args g,tC xs k args g->args.length=ps.length) (hinv:∀ k i (G G':GH),(∀ b o,G b=some o->G' b=some o)->inv k i G->inv k i G') (I6:∀ x (G G':GH),(∀ b o,G b=some o->G' b=some o)->uE x G->uE x G') (h0:inv 0 i0 G)
  (round:∀ (l:Nat) (zH wm:Obj) (bk:OL) (k:Nat) (args:List av) (i:ι) (G1:GH) (w1:World) (F1:Nat->Prop) (B1:Code->Exit->Act->World->Prop) (a1:Act),tC xs k args G1->(∀ b o,G b=some o->G1 b=some o)->inv k i G1 ->
   (∀ T' G2 L2 a2 w2 c,St N [] w1 F1 G1 G2 ((l,zH) :: L2) T' a2 w2->(∀ w3,St N [] w1 F1 G1 G2 ((l,wm) :: L2) T' a2 w3->WP (some l) P c (B1 c) a2 w3)->Exit.then (fun a2 w2=>∃ w3,(Instr.beginRound l).run P w2=.ok () w3∧c.wpIn (FW (some l)) 0 P (B1 c) a2 w3) (fun _ _ _=>False) .normal a2 w2) ->
   (∀ i' T' G2 a2 w2 c,St N [] w1 F1 G1 G2 ((l,wm) :: (Lc++Lv (k+1) i'++(bk++Lt (k+1) i'))) T' a2 w2->inv (k+1) i' G2->B1 c .normal a2 w2) ->
   (∀ x T' G2 a2 w2 c,St N [] w1 F1 G1 G2 ((l,wm) :: (Lc++Lx x++(bk++yM x))) T' a2 w2->uE x G2->(cx x=.ret->B1 c .ret a2 w2)∧∀ n,cx x=.exit n->B1 c (.exit n) a2 w2) ->
   St N [] w1 F1 G1 G1 ((l,zH) :: (Lc++Lv k i++(bk++Lt k i))) (uY ps args T) a1 w1 ->
   WP (some l) P assign (Exit.then (fun a2 w2=>∃ w3,(Instr.beginRound l).run P w2=.ok () w3∧body.wpIn (FW (some l)) 0 P (B1 body) a2 w3) (fun _ _ _=>False)) a1 w1)
  (hdone:∀ Dk i G1 a1 w1,(∀ b o,G b=some o->G1 b=some o)->inv xs.length i G1->St N ({ target:=.collected Dk,args:=#[] } :: D) w0 F G0 G1 ((Dk,.deferred (some [])) :: (Lc++Lv xs.length i++Lt xs.length i)) T a1 w1->Q .normal a1 w1)
  (hstop:∀ Dk x G1 a1 w1,(∀ b o,G b=some o->G1 b=some o)->uE x G1->St N ({ target:=.collected Dk,args:=#[] } :: D) w0 F G0 G1 ((Dk,.deferred (some [])) :: (Lc++Lx x++yM x)) T a1 w1->WP none P (cx x) Q a1 w1) :
  WP none P (.rangeFunc uq ps.toArray assign body) Q a w:=by
 refine Uj (J:=fun k g L=>∃ i,L=Lc++Lv k i++Lt k i∧inv k i g) (Jx:=fun c g L=>∃ x,c=cx x∧L=Lc++Lx x++yM x∧uE x g) H hg en hit hGi hps hlen (fun k G G' L hm ⟨i,e,h⟩=>⟨i,e,hinv k i G G' hm h⟩) (fun c G G' L hm ⟨x,e1,e2,h⟩=>⟨x,e1,e2,I6 x G G' hm h⟩) ⟨i0,O,h0⟩ ?_ ?_ ?_
 ·rintro l q bk k args G1 L1 w1 a1 hk hm ⟨i,rfl,hi⟩ H1
  have pm:∀ A B:OL,(bk++(A++B)).Perm (A++(bk++B)):=fun A B=>by
   rw [<- nR,<- nR]
   exact List.Perm.append_right B List.perm_append_comm
  refine round l (q.at .ready none) (q.at .busy none) bk k args i G1 w1 _ (fun _=>roundPost P l _) a1 hk hm hi ?_ ?_ ?_ (H1.perm (List.Perm.cons _ (pm _ _)))
  ·intro T' G2 L2 a2 w2 c H2 h
   exact MH H2 h
  ·intro i' T' G2 a2 w2 c H2 h2
   exact Bj none (H2.perm (List.Perm.cons _ (pm _ _).symm)) ⟨_,O,i',O,h2⟩
  ·intro x T' G2 a2 w2 c H2 h2
   have H3:=H2.perm (List.Perm.cons _ (pm _ _).symm)
   refine ⟨fun e=>?_,fun n e=>?_⟩
   ·exact Bj (some .ret) H3 ⟨_,_,O,x,e.symm,O,h2⟩
   ·exact Bj (some (.exit n)) H3 ⟨_,_,O,x,e.symm,O,h2⟩
 ·rintro Dk G1 L1 a1 w1 hm ⟨i,rfl,hi⟩ H1
  exact hdone Dk i G1 a1 w1 hm hi H1
 ·rintro Dk c G1 L1 a1 w1 hm ⟨x,rfl,rfl,hx⟩ H1
  exact hstop Dk x G1 a1 w1 hm hx H1
end
end
theorem V7:bX 82:=cu func82 O
theorem jQ:Ty prog 9 1 16 [.string ⟨#[]⟩] false:=⟨Z,Z⟩
theorem KT:prog.underlying 21=some (.int .i32):=by kernel_rfl
theorem V8:bX 83:=cu func83 O
theorem V9:bX 84:=cu func84 O
theorem KS:prog.underlying 155=some (.array 2 3):=by kernel_rfl
theorem Au:bX 85:=cu func85 O
theorem acA:Ty prog 170 4 24 [.int .i64 0,.bool false,.bool false,.int .i64 0] true:=⟨Z,Z⟩
theorem VY:bX 72:=cu func72 O
theorem VZ:bX 73:=cu func73 O
theorem NS:bX 81:=cu func81 O
theorem RQ:Ty prog 155 2 16 [.int .i64 0,.int .i64 0] true:=⟨Z,Z⟩
theorem aaj {s:ByteArray} {f p:Nat} (hf:s.size - p<=f) (h:p < s.size):jP s f p=(p,(Utf8.decode s p).1) :: jP s (f - 1) (p+(Utf8.decode s p).2):=by
 match f,hf with
 | 0,hf=>omega
 | f+1,_=>rw [jP,aM h];rfl
theorem aai {s:ByteArray} {f p:Nat} (h:¬ p < s.size):jP s f p=[]:=by
 match f with
 | 0=>rfl
 | f+1=>rw [jP,aJ h]
theorem decode_le (s:ByteArray) (p:Nat):(Utf8.decode s p).1<=2097151:=by
 simp only [Utf8.decode,Utf8.runeError]
 repeat' split
 all_goals (dsimp only;omega)
theorem U3 (s:ByteArray) (p:Nat):(Utf8.decode s p).2<=4:=by
 simp only [Utf8.decode]
 repeat' split
 all_goals simp
theorem KA {m:tT} {c:Int} {u:Nat} (h:0<=m.om∧m.om<=(u:Int)):0<=(kU m c).om∧(kU m c).om<=((u+1:Nat):Int):=by
 simp only [kU];split <;> omega
def oQ (size:Nat):List (Nat × Nat)->Nat->Nat->Nat->tT->List (Nat × Nat × Nat × Nat)
 | [],unit,from_,start,_=>if 0 < unit then [(from_,unit,start,size)] else []
 | x :: l,unit,from_,start,m =>
  if 0 < unit∧gU m (nT uo x.2)=true then (from_,unit,start,x.1) :: oQ size l (unit+1) unit x.1 (kU m (nT uo x.2))
  else oQ size l (unit+1) from_ start (kU m (nT uo x.2))
def mI (s:ByteArray):List (Nat × Nat × Nat × Nat):=oQ s.size (gD s) 0 0 0 ⟨0,false,false,0⟩
def Cm (s:ByteArray) (x:Nat × Nat × Nat × Nat):AP:=fun args _=>args=[.agg #[vi x.1,vi x.2.1],.string (s.extract x.2.2.1 x.2.2.2)]
theorem MZ {s:ByteArray} {A:List (Nat × Nat × Nat × Nat)} {k:Nat} {args:List av} {g:GH} (h:tC (A.map (Cm s)) k args g):∃ (hk:k < A.length),args=[.agg #[vi A[k].1,vi A[k].2.1],.string (s.extract A[k].2.2.1 A[k].2.2.2)]:=by
 obtain ⟨p,hp,hargs⟩:=h;rw [qG] at hp;obtain ⟨q,hq,rfl⟩:=mG.1 hp;obtain ⟨hk,rfl⟩:=iI.1 hq;exact ⟨hk,hargs⟩
set_option maxHeartbeats 2000000 in
theorem UH {G:GH} {bd:Nat} {s:ByteArray} (hb:aR G bd 0=some (.string s)) (hz:s.size<=1073741824) :
    Iter prog G (.func (.func 81) #[] #[(aH bd 0)]) ((mI s).map (Cm s)):=by
  intro J Jx fv G1 L w0 XY hGi uy hJx hJ hO hcb;refine vo (caps:=[(aH bd 0)]) NS ?_;replace hb:=aK hGi hb;refine nU (N:=54) (T:=[(0,_),(1,_)]) func81 O ntmps81 O O hO ?_;intro a H;refine jL (fun _ K1=>?_);refine s_call V7 H wn O (WX _ _ H.ro) O ?_;clear H;rintro v11 BL a w hgt rH H;replace hb:=aK rH hb;refine kH H (aB K1 O (SR fun _ K2=>?_));clear H K1;intro a H;refine kE acA H wn O ?_;clear H;intro b4 a w hb4 H;refine K2 _ _ ?_;clear K2;refine kP H (SR fun _ K3=>Ra O (Ra O (aB K3 O (SQ fun _ K4=>SR fun _ K5=>Rg jQ O hb ?_))));clear H K3;intro a H;refine aaT jA H wn O O ?_;clear H;intro b13 a w adO H;refine K5 _ _ ?_;clear K5;refine xO ?_;skip;refine eG (ι:=Nat × Nat × Nat × Nat × Nat × tT × Nat × OL × GH) (Tc:=[(0,_),(1,_),(3,_),(4,_),(13,_)]) (Lc:=[]) (fun gh=>[(5,vi gh.2.2.1),(6,vi gh.2.2.2.1),(7,vi gh.2.2.2.2.1)]) (fun gh=>[(b13,.stringIter s gh.1),bM b4 gh.2.2.2.2.2.1]++gh.2.2.2.2.2.2.2.1) (fun gh=>gh.2.2.2.2.2.2.2.2) (fun gh=>s.size - gh.1<=gh.2.1∧gh.2.2.1<=gh.1∧gh.1<=s.size+8∧gh.2.2.2.1<=gh.2.2.1∧gh.2.2.2.2.1<=gh.1∧gh.2.2.2.2.1<=s.size∧(0<=gh.2.2.2.2.2.1.om∧gh.2.2.2.2.2.1.om<=gh.2.2.1)∧(∀ b o,BL b=some o->gh.2.2.2.2.2.2.2.2 b=some o)∧Now ((mI s).map (Cm s)) (Cm s) J (mI s).length gh.2.2.2.2.2.2.1 (oQ s.size (jP s gh.2.1 gh.1) gh.2.2.1 gh.2.2.2.1 gh.2.2.2.2.1 gh.2.2.2.2.2.1) gh.2.2.2.2.2.2.2.2 gh.2.2.2.2.2.2.2.1) (fun gh=>s.size+8 - gh.1) ((0,s.size,0,0,0,⟨0,false,false,0⟩,0,L,BL)) (by exact H.sub ⟨O,O,O,O,O,O,O,O,aL⟩) ?_ ?_
  · exact ⟨by rw [Nat.sub_zero];exact bD _,bD _,dU _,bD _,bD _,dU _,⟨Int.le_refl _,Int.le_refl _⟩,fun _ _ h=>h,⟨uy _ _ _ _ rH hJ,fun i a h=>by rw [fC,qG];rw [show oQ s.size (jP s s.size 0) 0 0 0 ⟨0,false,false,0⟩=mI s from rfl] at h;rw [h];rfl,by show 0+(mI s).length=_;omega⟩⟩
  clear H;rintro ⟨pos,f,unit,from_,start,m,j1,Lt,g⟩ a w hI H;dsimp only at hI H;obtain ⟨hf,hup,hpos,hfr,hst,Dl,Jt,hgm,iZ⟩:=hI;dsimp only [lca,dB] at H;refine jL (fun _ K6=>?_);refine aaQ (i:=0) H wn O O O ?_;clear H;intro a w H;dsimp only [List.set] at H;refine fZ H wn O ZM O ?_;clear H;intro a H;refine K6 _ _ ?_;clear K6;refine kP H (SQ fun _ K7=>Cd O ?_ ?_) <;> clear H
  · intro jX a H
    try have qo:=dT jX
    rw [PZ qo,PY qo] at H;rw [aaj hf qo,oQ] at iZ;have hd1:=U2 s pos;have hd2:=decode_le s pos;obtain ⟨r,hr⟩:∃ r,r=(Utf8.decode s pos).1:=⟨_,O⟩;obtain ⟨wd,hwd⟩:∃ wd,wd=(Utf8.decode s pos).2:=⟨_,O⟩;rw [<- hr] at hd2;rw [<- hr,<- hwd] at H iZ;rw [<- hwd] at hd1;obtain ⟨c,hc⟩:∃ c,c=nT uo (r:Int):=⟨_,O⟩;dsimp only at iZ;rw [<- hc] at iZ
    have aeF:wd<=4:=by rw [hwd];exact U3 s pos
    refine kP H (Kc K7 (SB (SR fun _ K8=>?_)));clear H K7;intro a H;(iterate 2 refine fZ H wn O O O ?_;clear H;intro a H);refine kH H (Ra O (aB K8 O (SR fun _ K9=>Rm O (Rm O ?_))));clear H K8;intro a H;refine yD ((r:Nat):Int) wW KT H wn O (wL V V) O ?_;clear H;intro a H;refine s_call V8 H wn O (UC _ _ H.ro uo r _ (hgt.mono hgm) Y ⟨V,V⟩) O ?_;clear H;rintro v21 yL a w rfl pY H;rw [<- hc] at H;refine kH H (aB K9 O (SQ fun _ aP=>SR fun _ bH=>Rm O (Rc O (Rm O (Sp 24 O ?_ ?_))))) <;> clear H K9
    · intro aN a H
      try have fK:=dT aN
      refine kH H (YM aN O ?_);clear H;intro a H;have H:=H.perm (qR [_] [] [_] Lt);refine jH V9 (Li:=[_]++([]++Lt)) (L:=[_]) H (wg H O O aN) O (TW m c (Hp.owns (Li:=[_]++([]++Lt)) H.hp)) O ?_;clear H;rintro v26 _ _ a w ⟨rfl,rfl,rfl⟩ - H;have H:=H.perm (qR [_] [] [_] Lt).symm;dsimp only [List.nil_append,List.cons_append] at H;refine kH H (Pt aN O (Kz bH (Cd O ?_ ?_))) <;> clear H bH
      · intro h27 a H
        try have p27:=dT h27
        rw [aM ⟨V,h27⟩] at iZ;refine kP H (SQ fun _ bL=>SR fun _ bI=>Rm O (Rm O (Rm O ?_)));clear H;intro a H;refine QA (z:=[.int .i64 0,.int .i64 0]) KS aF Z [_,_] H wn O O (fun i q h=>by match i,h with|0,h=>exact h|1,h=>exact h|n+2,h=>simp at h) O O ?_;clear H;intro a H;refine kH H (Rg jQ O (aK pY (aK hgm hb)) (Rm O (Rm O ?_)));clear H;intro a H;refine QK start pos jA H wn O O O O O V V O ?_;clear H;intro a H;refine Bo (Li:=[_,_]) (L:=Lt) H wn O O (hcb j1 _ _ _ _ ⟨_,iZ.head,O⟩ (fun b o h=>pY b o (hgm b o (rH b o h))) (uy _ _ _ _ pY iZ.now) (Hp.owns (Li:=[_,_]) H.hp)) O ?_;clear H;rintro v36 D7 qC a w ⟨b36,rfl,hb1,hb2⟩ E9 H;refine kH H (Rn O (Kz bI (Cd O ?_ ?_))) <;> clear H bI
        · intro h37 a H
          try have p37:=dT h37
          refine aV ?_;refine (leave0 H results81 ?_).1;exact H.hp.yx (L':=qC) (by repeat (first|exact yN _|apply List.Sublist.cons)) (.inr (hb2 (by simpa using h37)))
        intro h37 a H
        try have p37:=dF h37
        have uD:=iZ.step (hb1 (by simpa using h37));refine kP H (Kc bL (SC (Rm O (Rm O (Ra O (bS aP O (SR fun _ cB=>Rm O ?_)))))));clear H bL aP;intro a H
        first
          | (have H:=H.perm (qR [_] [] [_] qC)
             refine jH Au (Li:=[_]++([]++qC)) (L:=[_]) H wn O (Bv m c (Hp.owns (Li:=[_]++([]++qC)) H.hp) ⟨V,V⟩) O ?_;clear H;rintro v41 _ _ a w ⟨rfl,rfl⟩ - H
             have H:=H.perm (qR [_] [] [_] qC).symm)
          | (have H:=H.perm (qR [_] [] [_] Lt)
             refine jH Au (Li:=[_]++([]++Lt)) (L:=[_]) H wn O (Bv m c (Hp.owns (Li:=[_]++([]++Lt)) H.hp) ⟨V,V⟩) O ?_;clear H;rintro v41 _ _ a w ⟨rfl,rfl⟩ - H
             have H:=H.perm (qR [_] [] [_] Lt).symm)
        dsimp only [List.nil_append,List.cons_append] at H;have Dc:=KA (m:=m) (c:=c) Jt;refine cB _ _ ?_;clear cB;refine kP H (SC (Rm O (Rd O (Ra O ?_))));clear H;intro a H;refine aj ?_;refine bg ((pos+wd,f - 1,unit+1,unit,pos,kU m c,j1+1,qC,D7)) (by exact H.sub ⟨O,O,O,O,O,O,O,O,aL⟩) ?_
        (try dsimp only);exact ⟨V,V,V,V,V,V,Dc,fun b o h=>E9 b o (pY b o (hgm b o h)),uD⟩
      intro h27 a H
      try have p27:=dF h27
      rw [aJ (fun h=>absurd h.2 (by rw [h27];decide))] at iZ;refine kP H (Kc aP (SR fun _ dw=>Rm O ?_));clear H aP;intro a H
      first
        | (have H:=H.perm (qR [_] [] [_] qC)
           refine jH Au (Li:=[_]++([]++qC)) (L:=[_]) H wn O (Bv m c (Hp.owns (Li:=[_]++([]++qC)) H.hp) ⟨V,V⟩) O ?_;clear H;rintro v41 _ _ a w ⟨rfl,rfl⟩ - H
           have H:=H.perm (qR [_] [] [_] qC).symm)
        | (have H:=H.perm (qR [_] [] [_] Lt)
           refine jH Au (Li:=[_]++([]++Lt)) (L:=[_]) H wn O (Bv m c (Hp.owns (Li:=[_]++([]++Lt)) H.hp) ⟨V,V⟩) O ?_;clear H;rintro v41 _ _ a w ⟨rfl,rfl⟩ - H
           have H:=H.perm (qR [_] [] [_] Lt).symm)
      dsimp only [List.nil_append,List.cons_append] at H;have Dc:=KA (m:=m) (c:=c) Jt;refine dw _ _ ?_;clear dw;refine kP H (SC (Rm O (Rd O (Ra O ?_))));clear H;intro a H;refine aj ?_;refine bg ((pos+wd,f - 1,unit+1,from_,start,kU m c,j1,Lt,yL)) (by exact H.sub ⟨O,O,O,O,O,O,O,O,aL⟩) ?_
      (try dsimp only);exact ⟨V,V,V,V,V,V,Dc,fun b o h=>pY b o (hgm b o h),uy _ _ _ _ pY iZ.now,iZ.rem,iZ.len⟩
    intro aN a H
    try have fK:=dF aN
    rw [aJ (fun h=>fK V)] at iZ;refine kH H (aO aN O (Pf aN O (Kz bH (Cf O O (Kc aP (SR fun _ dN=>Rm O ?_))))));clear H bH aP;intro a H
    first
      | (have H:=H.perm (qR [_] [] [_] qC)
         refine jH Au (Li:=[_]++([]++qC)) (L:=[_]) H wn O (Bv m c (Hp.owns (Li:=[_]++([]++qC)) H.hp) ⟨V,V⟩) O ?_;clear H;rintro v41 _ _ a w ⟨rfl,rfl⟩ - H
         have H:=H.perm (qR [_] [] [_] qC).symm)
      | (have H:=H.perm (qR [_] [] [_] Lt)
         refine jH Au (Li:=[_]++([]++Lt)) (L:=[_]) H wn O (Bv m c (Hp.owns (Li:=[_]++([]++Lt)) H.hp) ⟨V,V⟩) O ?_;clear H;rintro v41 _ _ a w ⟨rfl,rfl⟩ - H
         have H:=H.perm (qR [_] [] [_] Lt).symm)
    dsimp only [List.nil_append,List.cons_append] at H;have Dc:=KA (m:=m) (c:=c) Jt;refine dN _ _ ?_;clear dN;refine kP H (SC (Rm O (Rd O (Ra O ?_))));clear H;intro a H;refine aj ?_;refine bg ((pos+wd,f - 1,unit+1,from_,start,kU m c,j1,Lt,yL)) (by exact H.sub ⟨O,O,O,O,O,O,O,O,aL⟩) ?_
    (try dsimp only);exact ⟨V,V,V,V,V,V,Dc,fun b o h=>pY b o (hgm b o h),uy _ _ _ _ pY iZ.now,iZ.rem,iZ.len⟩
  intro jX a H
  try have qo:=dF jX
  rw [aai qo,oQ] at iZ;have H:=H.sub (T':=[(0,_),(1,_),(5,_),(6,_),(7,_)]) ⟨O,O,O,O,O,aL⟩;refine dD ?_;refine K4 _ _ ?_;clear K4;refine kP H (SR fun _ eP=>Rm O (Rc O (Kz eP (Cd O ?_ ?_)))) <;> clear H eP
  · intro h45 a H
    try have p45:=dT h45
    rw [dJ] at iZ;refine kP H (SC (Rm O (Rm O (Rm O ?_))));clear H;intro a H;refine QA (z:=[.int .i64 0,.int .i64 0]) KS aF Z [_,_] H wn O O (fun i q h=>by match i,h with|0,h=>exact h|1,h=>exact h|n+2,h=>simp at h) O O ?_;clear H;intro a H;refine kH H (Rg jQ O (aK hgm hb) (Rm O ?_));clear H;intro a H;refine QJ start jA H wn O O O V O ?_;clear H;intro a H;refine Bo (Li:=[_,_]) (L:=Lt) H wn O O (hcb j1 _ _ _ _ ⟨_,iZ.head,O⟩ (fun b o h=>hgm b o (rH b o h)) iZ.now (Hp.owns (Li:=[_,_]) H.hp)) O ?_;clear H;rintro v53 SV Md a w ⟨Cg,rfl,hb1,hb2⟩ aeu H;refine aj ?_;refine (leave0 H results81 ?_).2
    first
      | (refine H.hp.yx (L':=Md) (by repeat (first|exact yN _|apply List.Sublist.cons)) ?_
         cases Cg
         · exact .inr (hb2 O)
         have uD:=iZ.step (hb1 O);have h:=uD.len
         simp only [List.length_nil,qZ] at h
         refine .inl ?_;rw [bN,<- h]
         exact uD.now)
      | (refine H.hp.yx (L':=Lt) (by repeat (first|exact yN _|apply List.Sublist.cons)) (.inl ?_)
         have h:=iZ.len
         simp only [List.length_nil,qZ] at h
         rw [bN,<- h]
         exact iZ.now)
  intro h45 a H
  try have p45:=dF h45
  rw [aX] at iZ;refine mh ?_;refine (leave0 H results81 ?_).2
  first
    | (refine H.hp.yx (L':=Md) (by repeat (first|exact yN _|apply List.Sublist.cons)) ?_
       cases Cg
       · exact .inr (hb2 O)
       have uD:=iZ.step (hb1 O);have h:=uD.len
       simp only [List.length_nil,qZ] at h
       refine .inl ?_;rw [bN,<- h]
       exact uD.now)
    | (refine H.hp.yx (L':=Lt) (by repeat (first|exact yN _|apply List.Sublist.cons)) (.inl ?_)
       have h:=iZ.len
       simp only [List.length_nil,qZ] at h
       rw [bN,<- h]
       exact iZ.now)
theorem WV (G:GH) (w0:World) (hG:Hold G w0) (s:ByteArray) (hz:s.size<=1073741824) :
  Calls prog 73 #[.string s] w0 (cO w0 G fun u G'=>∃ bd,u=.func (.func 81) #[] #[(aH bd 0)]∧Iter prog G' u ((mI s).map (Cm s))):=by
 refine eN [(0,_)] func73 O ntmps73 O O hG ?_;intro a H;refine jL (fun _ K1=>?_);refine oo (cs:=[_]) H wn O O O ?_;clear H;intro b1 a w hb1 H;refine kH H (aB K1 O (SR fun _ K2=>?_));clear H K1;intro a H;refine DC H wn O O ?_;clear H;intro a H;refine kH H (aB K2 O ?_);clear H K2;intro a H;refine aV ?_;obtain ⟨G2,hm2,hb1,H⟩:=H.jd;refine lv H results73 O ?_;exact H.rt ⟨b1,O,UH (by unfold aR;rw [hb1];rfl) hz⟩
structure Ac (G0:GH) (s:ByteArray):Prop where
 h:∀ (G:GH) (w0:World),(∀ b o,G0 b=some o->G b=some o)->Hold G w0->Calls prog 72 #[.string s] w0 (cO w0 G fun u G'=>u=.bool true∧G=G')
theorem Ac.ascii {G0:GH} {s:ByteArray} (hs:s.size<=8) (ha:∀ i (h:i < s.size),s[i].toNat < 128):Ac G0 s:=⟨fun G w0 _ hG=>acN G w0 hG s hs ha⟩
def wh (s:ByteArray):List Int:=0 :: (mI s).map fun x=>(x.2.1:Int)
theorem Hf (size:Nat):∀ (l:List (Nat × Nat)) (u f st:Nat) (m:tT),(oQ size l u f st m).length<=l.length+1
 | [],u,f,st,m=>by rw [oQ];split <;> simp
 | x :: l,u,f,st,m=>by
  have h1:=Hf size l (u+1) u x.1 (kU m (nT uo x.2));have h2:=Hf size l (u+1) f st (kU m (nT uo x.2))
  rw [oQ];split <;> simp only [kI] at*<;> omega
theorem Ak (s:ByteArray):(mI s).length<=s.size+1:=by
 have h1:=Hf s.size (gD s) 0 0 0 ⟨0,false,false,0⟩;have h2:=Bh s s.size 0
 unfold mI;unfold gD at *;omega
theorem P5 (G:GH):∀ (B A:List Int),dK G 1 (A.map eZ) (A.map vi)->dK G 1 ((A++B).map eZ) ((A++B).map vi)
 | [],A,h=>by rw [mg];exact h
 | x :: B,A,h=>by
  have h2:=h.snoc (lF G x) O;have h3:=P5 G B (A++[x]) (by simpa using h2)
  simpa using h3
theorem uH (G:GH) (A:List Int):dK G 1 (A.map eZ) (A.map vi):=P5 G A [] dK.nil
theorem TY {G0:GH} (G:GH) (w0:World) (hG:Hold G w0) (h0:∀ b o,G0 b=some o->G b=some o) (s:ByteArray) (hz:s.size<=1073741824) (hv:Ac G0 s) :
  Calls prog 64 #[.string s] w0 (cO w0 G fun u G'=>∃ x,u=.tuple #[x,vi 0]∧aC G' (.sl 1 ((wh s).map eZ)) x):=by
 have hcl:=Ak s;have hml:maxLen=9223372036854775807:=rfl;refine eN [(0,_)] func64 O ntmps64 O O hG ?_;intro a H;refine kP H (SR fun _ K1=>Ra O (aB K1 O (SQ fun _ K2=>SR fun _ K3=>Rm O ?_)));clear H K1;intro a H;refine s_call VY H wn O (hv.h _ _ h0 H.ro) O ?_;clear H;rintro v7 _ a w ⟨rfl,rfl⟩ - H;refine kH H (Rn O (Kz K3 (Cd O ?_ ?_))) <;> clear H K3
 ·intro h8 a H
  exact absurd h8 Y
 intro h8 a H
 try have p8:=dF h8
 refine mh ?_;refine K2 _ _ ?_;clear K2;refine jL (fun _ K4=>?_);refine eU bE aF [_] [_] H wn O O O O O (by intro i q h;match i,h with|0,h=>exact h|n+1,h=>simp at h) O O ?_;clear H;intro b9 a w IV H;refine kE aW H wn O ?_;clear H;intro b4 a w hb4 H;refine eO aW 0 (vs:=[_]) H wn O ?_;clear H;intro w H;refine K4 _ _ ?_;clear K4;refine kP H (SQ fun _ K5=>SR fun _ K6=>Rm O ?_);clear H;intro a H;refine s_call VZ H wn O (WV _ _ H.ro s hz) O ?_;clear H;rintro v11 BL a w ⟨bd,rfl,hit⟩ rH H;refine K6 _ _ ?_;clear K6;refine xO ?_;skip;refine Uk (ι:=av × List av × OL) (κ:=Empty) (Lc:=[]) (fun (k:Nat) (gh:av × List av × OL)=>[(b4,.cells #[gh.1] 46 (0,0))]) (fun (k:Nat) (gh:av × List av × OL)=>gh.2.2) (fun (k:Nat) (gh:av × List av × OL) (g:GH)=>bP 3 1 gh.1 (k+1) gh.2.1 gh.2.2∧gh.2.1=((wh s).take (k+1)).map vi) (fun x=>x.elim) (fun x=>x.elim) (fun x=>x.elim) (fun x=>x.elim) ((.slice (some ⟨b9,0,none⟩) 1 1,[vi 0],[(b9,.cells #[vi 0] 3 (0,0))])) (by exact H) O NS (hit) (fun _ _ h=>h) O (fun k args g h=>by obtain ⟨_,rfl⟩:=MZ h;rfl) (fun k i G G' hm h=>h) (fun x=>x.elim) (⟨bP.all O Y,O⟩) ?_ ?_ ?_
 ·clear H;intro l5 zH wm bk k args gh G5 w5 F5 B5 a hk5 Je hI XK Yo aeE H;obtain ⟨v,xs,Lo⟩:=gh;dsimp only at hI H;obtain ⟨hk,rfl⟩:=MZ hk5;dsimp only [uY,List.cons_append,List.nil_append] at H;obtain ⟨hrw,hxs⟩:=hI;refine uf ?_;refine kE RQ H wn O ?_;clear H;intro b5 a w hb5 H;refine eO RQ 0 (vs:=[_,_]) H wn O ?_;clear H;intro w H;refine aj ?_;refine XK _ _ _ _ _ _ (by exact H.dR (Pl:=[_,_,_]) (dx:=[_,_,_]) [1,0,2] Y O) ?_;clear H;intro w H;refine kP H (SB (SC (Ro aW 2 O ?_)));clear H;intro a H;refine mU KS aF 1 H wn O O O Y O ?_;clear H;intro a H;refine kH H (Ro aF 1 O ?_);clear H;intro a H;refine eU bE aF [_] [_] H wn O O O O O (by intro i q h;match i,h with|0,h=>exact h|n+1,h=>simp at h) O O ?_;clear H;intro b17 a w Ow H;have H:=St.un (A:=[_,_,_,_]) H;refine eD (Li:=[_,_,_,_]++bk) (Lo:=Lo) (news:=[vi (mI s)[k].2.1]) bE aF O O H wn O O hrw O (H.hp.dG 0 O O) O V V O ?_;clear H;intro v18 Ca a w Bb H;have H:=H.assoc;dsimp only [lca,dB] at H;obtain ⟨acM,acP,e18,-,-⟩:=Bb.shape;subst e18;refine eO aW 3 (vs:=[_]) H wn O ?_;clear H;intro w H;refine aj ?_;refine Yo ((.slice acM (k+1+1) acP,xs++[vi (mI s)[k].2.1],Ca)) _ _ _ _ _ (by exact H.dR (Pl:=[_,_,_,_]) (dx:=[_,_]) [1,3] Y O) ?_;exact ⟨Bb,by rw [hxs,lZ (i:=k+1) (by simp [wh];omega),kC];simp [wh]⟩
 ·clear H;intro Dk5 gh Gd5 a w Je hI H;obtain ⟨v,xs,Lo⟩:=gh;dsimp only at hI H;dsimp only [lca,dB] at H;obtain ⟨hrw,hxs⟩:=hI;refine K5 _ _ ?_;clear K5;refine kP H (SR fun _ K7=>Ro aW 1 O (Ra O (aB K7 O ?_)));clear H K7;intro a H;refine aV ?_;rw [bN] at hrw hxs;obtain ⟨Gr,hmr,hrep,H⟩:=St.ni (Li:=[_,_]) (Lo:=Lo) H hrw (rows:=(wh s).map eZ) (by simp [wh]) (by rw [hxs,iU (by simp [wh])];exact uH _ _);refine (Pv H 0 O ?_).1;clear H;intro a w H;dsimp only [List.eraseIdx_cons_succ,List.eraseIdx_cons_zero] at H;refine (aY H results64 (.cons (aD H O) (.cons (aD H O) .nil)) ?_).1
  first
   | exact H.rt ⟨_,O,hrep⟩
 intro Dk x;exact x.elim
def sS (s:ByteArray):Nat->Nat->List Int
 | 0,_=>[]
 | f+1,i=>if i < s.size then (fB s i).1 :: sS s f (i+(fB s i).2.1) else []
def uI (s:ByteArray):List Int:=sS s s.size 0
theorem Qe (s:ByteArray):∀ f i,(sS s f i).length<=f
 | 0,_=>by simp [sS]
 | f+1,i=>by
  rw [sS];split
  ·rw [kI];have:=Qe s f (i+(fB s i).2.1);omega
  simp
theorem Qd {s:ByteArray} {f i:Nat} (hf:s.size - i<=f) (h:i < s.size):sS s f i=(fB s i).1 :: sS s (f - 1) (i+(fB s i).2.1):=by
 match f,hf with
 | 0,hf=>omega
 | f+1,_=>rw [sS,aM h];rfl
theorem JU {s:ByteArray} {f i:Nat} (h:¬ i < s.size):sS s f i=[]:=by
 match f with
 | 0=>rfl
 | f+1=>rw [sS,aJ h]
theorem Z8 (G:GH) (w0:World) (hG:Hold G w0) (s:ByteArray) (hs:s.size<=1073741824) (hv:fJ s=true) :
  Calls prog 63 #[.string s] w0 (cO w0 G fun u G'=>∃ x,u=.tuple #[x,vi 0]∧aC G' (.sl 1 ((uI s).map eZ)) x):=by
 have hv1:gK s 0 < 0:=by simpa [fJ] using hv
 have hpl:=Qe s s.size 0;have hml:maxLen=9223372036854775807:=rfl;refine eN [(0,_)] func63 O ntmps63 O O hG ?_;intro a H;refine kP H (SR fun _ K1=>Ra O (aB K1 O (SQ fun _ K2=>SR fun _ K3=>aB K3 O (SB ?_))));clear H K1 K3;intro a H;skip;refine eG (ι:=Nat × Nat × List Int × av × OL) (Tc:=[(0,_)]) (Lc:=[]) (fun gh=>[(2,gh.2.2.2.1),(4,vi gh.1)]) (fun gh=>[]++gh.2.2.2.2) (fun gh=>G) (fun gh=>gh.1<=s.size∧gK s 0=gK s gh.1∧s.size - gh.1<=gh.2.1∧gh.2.2.1++sS s gh.2.1 gh.1=uI s∧bP 3 1 gh.2.2.2.1 gh.2.2.1.length (gh.2.2.1.map vi) gh.2.2.2.2) (fun gh=>s.size - gh.1) ((0,s.size,[],.slice none 0 0,[])) (by exact H.sub ⟨O,O,O,aL⟩) ?_ ?_
 ·exact ⟨dU _,O,Nat.sub_le _ _,O,bP.nil⟩
 clear H;rintro ⟨i,f,B,v,Lo⟩ a w hI H;dsimp only at hI H;obtain ⟨hi,hf,hfu,heq,hrw⟩:=hI
 have hBl:B.length<=s.size:=by have:=jD List.length heq;rw [iK] at this;unfold uI at this;omega
 dsimp only [lca,dB] at H;refine kP H (SQ fun _ K4=>SR fun _ K5=>Rm O (Rm O (Rv jA O (Rc O (Kz K5 (Cd O ?_ ?_)))))) <;> clear H K5
 ·intro h11 a H
  try have rR:=dT h11
  refine kP H (Kc K4 (SB (SR fun _ K6=>Rm O (Rm O ?_))));clear H K4;intro a H;refine s_call NK H wn O (Ns _ _ H.ro s i V V) O ?_;clear H;rintro v15 _ a w ⟨rfl,rfl⟩ - H;have hd:=Am s i V
  have hok:(fB s i).2.2=true:=by
   by_cases h:(fB s i).2.2=true
   ·exact h
   have h3:gK s i=i:=by rw [gK,dif_pos V,dif_neg h]
   omega
  have hd2:=hd.2 hok;refine kH H (Rm O ?_);clear H;intro a H;(iterate 3 refine fZ H wn O O O ?_;clear H;intro a H);refine kH H (Ra O (Ra O (aB K6 O (SQ fun _ K7=>SR fun _ K8=>Rm O (Rn O (Kz K8 (Cd O ?_ ?_))))))) <;> clear H K6 K8
  ·intro h20 a H
   exact absurd h20 (by rw [hok];decide)
  intro h20 a H
  try have pq:=dF h20
  refine kP H (Kc K7 (SR fun _ K9=>Rm O (Rm O ?_)));clear H K7;intro a H;refine eU bE aF [_] [_] H wn O O O O O (by intro i q h;match i,h with|0,h=>exact h|n+1,h=>simp at h) O O ?_;clear H;intro TJ a w XE H;refine eD (Li:=[_]) (Lo:=Lo) (news:=[vi (fB s i).1]) bE aF O O H wn O O hrw O (H.hp.dG 0 O O) O V V O ?_;clear H;intro v24 Gu a w zy H;obtain ⟨aeX,aeY,e24,-,-⟩:=zy.shape;refine kH H (aB K9 O (SC (Rm O (Rm O (Rd O (Ra O ?_))))));clear H K9;intro a H;refine aj ?_;refine JF ((i+(fB s i).2.1,f - 1,B++[(fB s i).1],v24,Gu)) (by exact (H.dR (Pl:=[_]) (dx:=[]) [] Y O).sub ⟨O,O,O,aL⟩) ?_ ?_
  ·(try dsimp only);exact ⟨V,by rw [hf,gK,dif_pos V,dif_pos hok],V,by rw [Qd hfu V] at heq;simpa using heq,by rw [iK,kC];exact zy⟩
  omega
 intro h11 a H
 try have rR:=dF h11
 refine dD ?_;refine K2 _ _ ?_;clear K2;refine kP H (SR fun _ aP=>Rm O (Ra O (aB aP O ?_)));clear H aP;intro a H;refine aV ?_;rw [JU V,mg] at heq;obtain ⟨Gr,hmr,hrep,H⟩:=St.ni (Li:=[]) (Lo:=Lo) H hrw (rows:=B.map eZ) (by simp) (uH _ _);rw [heq] at hrep;refine (aY H results63 (.cons (aD H O) (.cons (aD H O) .nil)) ?_).1;exact H.rt ⟨_,O,hrep⟩
theorem WE:gQ prog 158 1 1:=⟨Z⟩
theorem WC:gQ prog 158 0 0:=⟨Z⟩
theorem NR:bX 77:=cu func77 O
theorem V5:bX 76:=cu func76 O
theorem WG:gQ prog 158 2 2:=⟨Z⟩
theorem Wi:bX 91:=cu func91 O
theorem Wd:bX 86:=cu func86 O
theorem Wz:gQ prog 146 0 0:=⟨Z⟩
def vw (x:fG) (p:Int):Int:=if x.high < p then -1 else if x.low > p then 1 else 0
theorem Nc (G:GH) (w0:World) (hG:Hold G w0) (x:fG) (p:Int):Calls prog 77 #[.agg #[vi x.low,vi x.high,vi x.cls],vi p] w0 (cO w0 G fun u G'=>u=vi (vw x p)):=by
 refine eN [(0,_),(1,_)] func77 O ntmps77 O O hG ?_;intro a H;refine jL (fun _ K1=>?_);refine oo (cs:=[_,_,_]) H wn O O O ?_;clear H;intro b2 a w hb2 H;refine kH H (aB K1 O (SQ fun _ K2=>SB (SR fun _ K3=>gH WE aF 0 O O (Rm O (Rc O (aB K3 O (Cd O ?_ ?_))))))) <;> clear H K1 K3
 ·intro h5 a H
  try have p5:=dT h5
  exact kP H (SR fun _ K4=>aB K4 O (LR results77 O fun H=>H.rt (by unfold vw;repeat (first|rw [dJ]|rw [aX]))))
 intro h5 a H
 try have p5:=dF h5
 refine kP H (SR fun _ K5=>gH WC aF 0 O O (Rm O (Rc O (aB K5 O (Cd O ?_ ?_))))) <;> clear H K5
 ·intro h10 a H
  try have qm:=dT h10
  exact kP H (SR fun _ K6=>aB K6 O (LR results77 O fun H=>H.rt (by unfold vw;repeat (first|rw [dJ]|rw [aX]))))
 intro h10 a H
 try have qm:=dF h10
 exact kP H (Kc K2 (SR fun _ K7=>aB K7 O (LR results77 O fun H=>H.rt (by unfold vw;repeat (first|rw [dJ]|rw [aX])))))
def EI (l:List fG) (p:Int) (i:Nat):Bool:=match l[i]? with|some x=>decide (¬ vw x p < 0)|none=>false
def Cz (l:List fG) (p:Int):Nat:=bs (EI l p) l.length 0 l.length
def vD (l:List fG) (p:Int):Bool:=match l[Cz l p]? with|some x=>decide (vw x p=0)|none=>false
def qK (l:List fG) (p:Int):Int:=match l[Cz l p]? with|some x=>if vw x p=0 then x.cls else 0|none=>0
theorem Ub (G:GH) (w0:World) (hG:Hold G w0) (l:List fG) (p:Int) (v:av) (hv:aC G (.sl 3 (l.map fG.dat)) v) (hl:l.length<=4294967296) :
  Calls prog 76 #[v,vi p,.func (.func 77) #[] #[]] w0 (cO w0 G fun u G'=>u=.tuple #[vi (Cz l p),.bool (vD l p)]):=by
 obtain ⟨A,c,rfl,hc1,hc2,-⟩:=hv.slice;rw [bN] at *;refine eN [(0,_),(1,_),(2,_)] func76 O ntmps76 O O hG ?_;intro a H;refine kP H (SR fun _ K1=>Ra O (aB K1 O (SR fun _ K2=>Rm O (Rl zV O (aB K2 O (SR fun _ K3=>Rm O (Ra O (aB K3 O (SQ fun _ K4=>SB ?_)))))))));clear H K1 K2 K3;intro a H;skip;refine eG (ι:=Nat × Nat × Nat × GH) (Tc:=[(0,_),(1,_),(2,_),(8,_)]) (Lc:=[]) (fun gh=>[(9,vi gh.1),(10,vi gh.2.1)]) (fun gh=>[]) (fun gh=>gh.2.2.2) (fun gh=>gh.1<=gh.2.1∧gh.2.1<=l.length∧gh.2.1 - gh.1<=gh.2.2.1∧bs (EI l p) gh.2.2.1 gh.1 gh.2.1=Cz l p∧(∀ b o,G b=some o->gh.2.2.2 b=some o)) (fun gh=>gh.2.1 - gh.1) ((0,l.length,l.length,G)) (by exact H.sub ⟨O,O,O,O,O,O,aL⟩) ?_ ?_
 ·exact ⟨dU _,bD _,Nat.sub_le _ _,O,fun _ _ h=>h⟩
 clear H;rintro ⟨i,j,f,g⟩ a w hI H;dsimp only at hI H;obtain ⟨hij,hj,hf1,heq,hgm⟩:=hI;dsimp only [lca,dB] at H;refine kP H (SQ fun _ K5=>SR fun _ K6=>Rm O (Rm O (Rc O (Kz K6 (Cd O ?_ ?_))))) <;> clear H K6
 ·intro dZ a H
  try have lg:=dT dZ
  have hlt:i < j:=by omega
  have hh:(i+j) / 2 < l.length:=by omega
  rw [Mw hf1 hlt] at heq
  have hge:EI l p ((i+j) / 2)=decide (¬ vw l[(i+j) / 2] p < 0):=by simp only [EI,iR hh]
  rw [hge] at heq;obtain ⟨b,o,rfl,hrow⟩:=Br hv hh;replace hrow:=fun j u hj=>aK hgm (hrow j u hj);refine kP H (Kc K5 (SB (SR fun _ K7=>Rm O (Rm O (Rd O ?_)))));clear H K5;intro a H;rw [show ((i:Int)+(j:Int))=((i+j:Nat):Int) by push_cast;rfl] at H;refine yD ((i+j:Nat):Int) F8 wW H wn O (R7 V V) O ?_;clear H;intro a H;refine J7 _ H wn O O O Y O ?_;clear H;intro a H;rw [QU] at H;refine yD (((i+j) / 2:Nat):Int) wW F8 H wn O (wL V V) O ?_;clear H;intro a H;refine kH H (aB K7 O (SR fun _ K8=>Rm O (Rm O (Rm O ?_))));clear H K7;intro a H;refine aT zV yG ((i+j) / 2) H wn O O O hh O ?_;clear H;intro a H;refine dX yG (cs:=[_,_,_]) H wn O O (fun j v hj=>H.hp.aR (hrow j v hj)) O ?_;clear H;intro a H;refine kH H (Rm O ?_);clear H;intro a H;refine yC H wn O O (vo (caps:=[]) (args:=[_,_]) NR (Nc _ _ H.ro l[(i+j) / 2] p)) O ?_;clear H;rintro v30 D6 a w rfl CQ H;refine kH H (Rc O (Kz K8 (Cd O ?_ ?_))) <;> clear H K8
  ·intro h31 a H
   try have p31:=dT h31
   rw [aJ (by simpa using p31)] at heq;refine kP H (SC (Rm O (Rd O (Ra O ?_))));clear H;intro a H;refine aj ?_;refine bg (((i+j) / 2+1,j,f - 1,D6)) (by exact H.sub ⟨O,O,O,O,O,O,aL⟩) ?_
   (try dsimp only);exact ⟨V,hj,V,heq,fun b o h=>CQ b o (hgm b o h)⟩
  intro h31 a H
  try have p31:=dF h31
  rw [aM (by simpa using p31)] at heq;refine kP H (SC (Rm O (Ra O ?_)));clear H;intro a H;refine aj ?_;refine bg ((i,(i+j) / 2,f - 1,D6)) (by exact H.sub ⟨O,O,O,O,O,O,aL⟩) ?_
  (try dsimp only);exact ⟨V,V,V,heq,fun b o h=>CQ b o (hgm b o h)⟩
 intro dZ a H
 try have lg:=dF dZ
 refine dD ?_;refine K4 _ _ ?_;clear K4;refine iF (fun _ K9=>?_);rw [Mv V] at heq;refine kP H (SC (Rm O (Rm O (Rm O (Rc O (Rm O (Sp 39 O ?_ ?_))))))) <;> clear H
 ·intro iP a H
  try have p39:=dT iP
  have hh:i < l.length:=by omega
  have lS:vD l p=decide (vw l[i] p=0):=by simp only [vD,<- heq,iR hh]
  obtain ⟨b,o,rfl,hrow⟩:=Br hv hh;replace hrow:=fun j u hj=>aK hgm (hrow j u hj);refine kH H (YM iP O (YM iP O (YM iP O ?_)));clear H;intro a H;refine aT zV yG i H (wg H O O iP) O O O hh O ?_;clear H;intro a H;refine dX yG (cs:=[_,_,_]) H (wg H O O iP) O O (fun j v hj=>H.hp.aR (hrow j v hj)) O ?_;clear H;intro a H;refine kH H (YM iP O ?_);clear H;intro a H;refine yC H (wg H O O iP) O O (vo (caps:=[]) (args:=[_,_]) NR (Nc _ _ H.ro l[i] p)) O ?_;clear H;rintro v46 G46 a w rfl aes H;refine kH H (YC iP O (Pt iP O (Ra O (bS K9 O ?_))));clear H K9;intro a H;refine aV ?_;refine (aY H results76 (.cons (aD H O) (.cons (aD H O) .nil)) ?_).1;exact H.rt (by rw [lS,<- heq];try rfl)
 intro iP a H
 try have p39:=dF iP
 have lS:vD l p=false:=by simp only [vD,<- heq,List.getElem?_eq_none (show l.length<=i by omega)]
 refine kH H (aQ iP O (aQ iP O (aO iP O (Pf iP O (Ra O (bS K9 O ?_))))));clear H K9;intro a H;refine aV ?_;refine (aY H results76 (.cons (aD H O) (.cons (aD H O) .nil)) ?_).1;exact H.rt (by rw [lS,<- heq];try rfl)
theorem find_spec (G:GH) (w0:World) (hG:Hold G w0) (l:List fG) (p:Int) (v:av) (hv:aC G (.sl 3 (l.map fG.dat)) v) (hl:l.length<=4294967296) :
  Calls prog 66 #[v,vi p] w0 (cO w0 G fun u G'=>u=vi (qK l p)):=by
 obtain ⟨A,c,rfl,hc1,hc2,-⟩:=hv.slice;rw [bN] at *;obtain ⟨k,hk⟩:∃ k,k=Cz l p:=⟨_,O⟩;refine eN [(0,_),(1,_)] func66 O ntmps66 O O hG ?_;intro a H;refine kP H (SR fun _ K1=>aB K1 O (SR fun _ K2=>Rm O (Rm O ?_)));clear H K1;intro a H;refine s_call V5 H wn O (Ub _ _ H.ro l p _ hv hl) O ?_;clear H;rintro v10 LB a w rfl AV H;rw [<- hk] at H;refine kH H (Rm O ?_);clear H;intro a H;(iterate 2 refine fZ H wn O O O ?_;clear H;intro a H);refine kH H (Ra O (aB K2 O (SQ fun _ K3=>SR fun _ K4=>Rm O (Rn O (Kz K4 (Cd O ?_ ?_)))))) <;> clear H K2 K4
 ·intro fF a H
  refine kP H (SR fun _ K5=>aB K5 O ?_);clear H K5;intro a H;refine lr H results66 O ?_
  have lS:vD l p=false:=by simpa using fF
  exact H.rt (by
   rw [vD,<- hk] at lS;rw [qK,<- hk]
   cases h:l[k]? with
   | none=>rfl
   | some x=>rw [h] at lS;dsimp only at lS |-;rw [aJ (by simpa using lS)])
 intro fF a H
 try have jY:=dF fF
 have lS:vD l p=true:=by simpa using fF
 have hkl:k < l.length:=by
  by_cases h:k < l.length
  ·exact h
  rw [vD,<- hk,List.getElem?_eq_none V] at lS;cases lS
 have hcm:vw l[k] p=0:=by rw [vD,<- hk,iR hkl] at lS;simpa using lS
 obtain ⟨b,o,rfl,hrow⟩:=Br hv hkl;have h2:=aK AV (hrow 2 _ O);refine kP H (Kc K3 (SR fun _ K6=>Rm O (Rm O ?_)));clear H K3;intro a H;refine aT zV yG k H wn O O O hkl O ?_;clear H;intro a H;refine kH H (Rf WG O (Rg aF O (by assumption) ?_));clear H;intro a H;exact kH H (aB K6 O (LR results66 O fun H=>H.rt (by rw [qK,<- hk,iR hkl];dsimp only;rw [aM hcm])))
theorem index_spec (G:GH) (w0:World) (hG:Hold G w0) (l:List Int) (x:Int) (v:av) (hv:aC G (.sl 1 (l.map eZ)) v) :
  Calls prog 91 #[v,vi x] w0 (cO w0 G fun u G'=>G=G'∧∃ z:Int,u=vi z∧(0<=z↔x∈l)):=by
 obtain ⟨A,c,rfl,hc1,hc2,-⟩:=hv.slice;have hml:maxLen=9223372036854775807:=rfl;rw [bN] at *;refine eN [(0,_),(1,_)] func91 O ntmps91 O O hG ?_;intro a H;refine kP H (SR fun _ K1=>aB K1 O (SQ fun _ K2=>SR fun _ K3=>Rm O (Rl bE O (Rm O (Kz K3 (SB ?_))))));clear H K1 K3;intro a H;skip;refine eG (ι:=Nat) (Tc:=[(0,_),(1,_),(7,_)]) (Lc:=[]) (fun gh=>[(8,vi gh)]) (fun gh=>[]) (fun gh=>G) (fun gh=>gh<=l.length∧∀ q (hq:q < gh) (hq2:q < l.length),¬ l[q]=x) (fun gh=>l.length - gh) (0) (by exact H.sub ⟨O,O,O,O,aL⟩) ?_ ?_
 ·exact ⟨dU _,fun q hq=>absurd hq (Nat.not_lt_zero _)⟩
 clear H;intro k a w hI H;obtain ⟨hk,hno⟩:=hI;dsimp only [lca,dB] at H;refine kP H (SR fun _ K4=>Rc O (Kz K4 (SQ fun _ K5=>Cd O ?_ ?_))) <;> clear H K4
 ·intro h9 a H
  try have p9:=dT h9
  have hk2:k < l.length:=by omega
  obtain ⟨b,o,rfl,hrow⟩:=oZ hv hk2;refine kP H (Kc K5 (SQ fun _ K6=>SB (SR fun _ K7=>Rm O (aB K7 O (SR fun _ K8=>Rm O (Rm O (Rm O (Ri bE aF O O (Rg aF O (by assumption) ?_)))))))));clear H K5 K7;intro a H;refine kH H (Rc O (Kz K8 (Cd O ?_ ?_))) <;> clear H K8
  ·intro h16 a H
   try have p16:=dT h16
   exact kP H (SR fun _ K9=>Rm O (aB K9 O (LR results91 O fun H=>H.rt ⟨O,_,O,⟨fun _=>by rw [p16];exact dV hk2,fun _=>by omega⟩⟩)))
  intro h16 a H
  try have p16:=dF h16
  refine kP H (Kc K6 (SC (Rd O (Rm O ?_))));clear H K6;intro a H;refine aj ?_;refine bg ((k+1)) (by exact H.sub ⟨O,O,O,O,aL⟩) ?_
  exact ⟨V,fun q hq hq2=>by
    by_cases e:q=k
    ·subst e;omega
    exact hno q V hq2⟩
 intro h9 a H
 try have p9:=dF h9
 refine dD ?_;refine K2 _ _ ?_;clear K2;refine kP H (SR fun _ aP=>aB aP O ?_);clear H aP;intro a H;refine lr H results91 O ?_
 exact H.rt ⟨O,_,O,⟨fun h=>absurd h Y,fun h=>by
 obtain ⟨q,hq,e⟩:=List.getElem_of_mem h
 exact absurd e (hno q V hq)⟩⟩
theorem UN (G:GH) (w0:World) (hG:Hold G w0) (l:List Int) (x:Int) (v:av) (hv:aC G (.sl 1 (l.map eZ)) v) :
  Calls prog 86 #[v,vi x] w0 (cO w0 G fun u G'=>G=G'∧u=.bool (decide (x∈l))):=by
 refine eN [(0,_),(1,_)] func86 O ntmps86 O O hG ?_;intro a H;refine kP H (SR fun _ K1=>aB K1 O (SR fun _ K2=>Rm O (Rm O ?_)));clear H K1;intro a H;refine s_call Wi H wn O (index_spec _ _ H.ro l x _ hv) O ?_;clear H;rintro v7 _ a w ⟨rfl,z,rfl,hz⟩ - H;exact kH H (Rc O (aB K2 O (LR results86 O fun H=>H.rt ⟨O,by congr 1;rw [decide_eq_decide];exact hz⟩)))
structure eF where
 cls:Int
 from_:Int
 dP:Int
def eF.dat (x:eF):List Dat:=[li x.cls,li x.from_,li x.dP]
def eF.cells (x:eF):List av:=[vi x.cls,vi x.from_,vi x.dP]
theorem kQ (G:GH) (w0:World) (hG:Hold G w0) (x:eF) (l:List Int) (v:av) (hv:aC G (.sl 1 (l.map eZ)) v) :
  Calls prog 78 #[.agg #[vi x.cls,vi x.from_,vi x.dP],v] w0 (cO w0 G fun u G'=>G=G'∧u=.bool (decide (x.cls∈l))):=by
 refine eN [(0,_),(1,_)] func78 O ntmps78 O O hG ?_;intro a H;refine jL (fun _ K1=>?_);refine oo (cs:=[_,_,_]) H wn O O O ?_;clear H;intro b2 a w hb2 H;refine kH H (aB K1 O (SR fun _ K2=>Rm O (gH Wz aF 0 O O ?_)));clear H K1;intro a H;refine s_call Wd H wn O (UN _ _ H.ro l x.cls _ hv) O ?_;clear H;rintro v8 _ a w ⟨rfl,rfl⟩ - H;exact kH H (aB K2 O (LR results78 O fun H=>H.rt ⟨O,O⟩))
theorem fq:Ty prog 146 3 24 [.int .i64 0,.int .i64 0,.int .i64 0] true:=⟨Z,Z⟩
theorem iN:prog.underlying 117=some (.slice 146):=by kernel_rfl
theorem kM:bX 78:=cu func78 O
theorem V6:bX 79:=cu func79 O
theorem UA (G:GH) (x:eF):aZ G x.dat x.cells:=by
 simp only [eF.dat,eF.cells,aZ]
 exact ⟨_,_,O,by simp [aC,Value.oneCell'],_,_,O,by simp [aC,Value.oneCell'],_,_,O,by simp [aC,Value.oneCell'],O⟩
theorem Uz {G:GH} {x:eF} {cs:List av} (h:aZ G x.dat cs):cs=x.cells:=by
 simp only [eF.dat,aZ,aC] at h
 obtain ⟨v1,_,rfl,⟨rfl,-⟩,v2,_,rfl,⟨rfl,-⟩,v3,_,rfl,⟨rfl,-⟩,rfl⟩:=h
 rfl
theorem En {G:GH} {l:List eF} {A:Option Addr} {n c k:Nat} (hv:aC G (.sl 3 (l.map eF.dat)) (.slice A n c)) (hk:k < l.length):∃ b o,A=some ⟨b,o,none⟩∧(∀ j u,l[k].cells[j]?=some u->aR G b (o+k*3+j)=some u):=by
 obtain ⟨A',c',he,_,_,hg⟩:=hv.slice
 injection he with e1 e2 e3
 subst e1;obtain ⟨b,o,cs,h1,h2,h3,h4⟩:=hg k l[k].dat (by simp [hk]);obtain rfl:=Uz h4;exact ⟨b,o,h1,h3⟩
theorem jW {G:GH} {l:List eF} {b o n c k:Nat} (hv:aC G (.sl 3 (l.map eF.dat)) (.slice (some ⟨b,o,none⟩) n c)) (hk:k < l.length):∀ j u,[vi l[k].cls,vi l[k].from_,vi l[k].dP][j]?=some u->aR G b (o+k*3+j)=some u:=by
 obtain ⟨b',o',e,h⟩:=En hv hk
 injection e with e;injection e with e1 e2;subst e1;subst e2
 exact h
def iV (l:List eF) (i:Nat):Int:=match l[i]? with|some x=>x.cls|none=>-1
theorem Na {l:List eF} {i:Nat} (h:i < l.length):iV l i=l[i].cls:=by simp only [iV,iR h]
theorem is1 {l:List eF} {i:Nat} (h:i < l.length) (c:Int):decide (l[i].cls∈[c])=decide (iV l i=c):=by rw [Na h];simp
theorem is2 {l:List eF} {i:Nat} (h:i < l.length) (c d:Int):decide (l[i].cls∈[c,d])=decide (iV l i=c∨iV l i=d):=by rw [Na h];simp
def okW (l:List eF) (n:Nat):Bool:=decide (iV l n=5∨iV l n=6∨(0 < n∧n+1 < l.length∧iV l n=11∧iV l (n - 1)=5∧iV l (n+1)=5)∨(0 < n∧n+1 < l.length∧iV l n=10∧iV l (n - 1)=6∧iV l (n+1)=6))
def uO (l:List eF):Nat->Nat->Int->Nat × Int
 | 0,n,k=>(n,k)
 | f+1,n,k=>if n < l.length then (if okW l n=true then uO l f (n+1) (if iV l n=5 then 1 else k) else (n,k)) else (n,k)
theorem Sv {l:List eF} {f n:Nat} {k:Int} (hf:l.length - n<=f) (h:n < l.length):uO l f n k=if okW l n=true then uO l (f - 1) (n+1) (if iV l n=5 then 1 else k) else (n,k):=by
 match f,hf with
 | 0,hf=>omega
 | f+1,_=>rw [uO,aM h];rfl
theorem acY {l:List eF} {f n:Nat} {k:Int} (h:¬ n < l.length):uO l f n k=(n,k):=by
 match f with
 | 0=>rfl
 | f+1=>rw [uO,aJ h]
def jB (l:List eF):Nat × Int:=uO l l.length 0 2
theorem acW (G:GH) (w0:World) (hG:Hold G w0) (l:List eF) (v:av) (hv:aC G (.sl 3 (l.map eF.dat)) v) :
  Calls prog 79 #[v] w0 (cO w0 G fun u G'=>u=.tuple #[vi (jB l).1,vi (jB l).2]):=by
 obtain ⟨A,c,rfl,hc1,hc2,-⟩:=hv.slice;have hml:maxLen=9223372036854775807:=rfl;rw [bN] at *;refine eN [(0,_)] func79 O ntmps79 O O hG ?_;intro a H;refine kP H (SR fun _ K1=>Ra O (aB K1 O (SR fun _ K2=>aB K2 O (SQ fun _ K3=>SB ?_))));clear H K1 K2;intro a H;skip;refine eG (ι:=Nat × Nat × Int × GH) (Tc:=[(0,_)]) (Lc:=[]) (fun gh=>[(2,vi gh.1),(3,vi gh.2.2.1)]) (fun gh=>[]) (fun gh=>gh.2.2.2) (fun gh=>gh.1<=l.length∧l.length - gh.1<=gh.2.1∧uO l gh.2.1 gh.1 gh.2.2.1=jB l∧aC gh.2.2.2 (.sl 3 (l.map eF.dat)) (.slice A l.length c)) (fun gh=>l.length - gh.1) ((0,l.length,2,G)) (by exact H.sub ⟨O,O,O,aL⟩) ?_ ?_
 ·exact ⟨dU _,Nat.sub_le _ _,O,hv⟩
 clear H;rintro ⟨n,f,kd,g⟩ a w hI H;dsimp only at hI H;obtain ⟨hn,hf,heq,bK⟩:=hI;dsimp only [lca,dB] at H;refine kP H (SQ fun _ K4=>SR fun _ K5=>Rm O (Rm O (Rl iN O (Rc O (Kz K5 (Cd O ?_ ?_)))))) <;> clear H K5
 ·intro h7 a H
  try have p7:=dT h7
  first
  | (exfalso;omega)
  | (exact absurd h7 Y)
  |skip
   have hn2:n < l.length:=by omega
   rw [Sv hf hn2] at heq;obtain ⟨b,o,rfl,-⟩:=En bK hn2;refine kP H (Kc K4 (SB (SQ fun _ K6=>SB (SR fun _ K7=>Rm O (Rm O ?_)))));clear H K4;intro a H;refine aT iN fq n H wn O O V V O ?_;clear H;intro a H;refine dX fq (cs:=[_,_,_]) H wn O O (fun j v hj=>H.hp.aR (jW bK (k:=n) V j v hj)) O ?_;clear H;intro a H;refine eU bE aF [_] [_] H wn O O O O O (by intro i q h;match i,h with|0,h=>exact h|n+1,h=>simp at h) O O ?_;clear H;intro b15 a w adR H;obtain ⟨Gq,fV,hq,H⟩:=H.lQ (sz:=1) (d:=eZ 5) O (lF _ 5);replace bK:=bK.mono fV;refine s_call kM H wn O (kQ _ _ H.ro l[n] [5] _ hq) O ?_;clear H;rintro v16 _ a w ⟨rfl,rfl⟩ - H;rw [is1 V 5] at H;refine kH H (aB K7 O (Cd O ?_ ?_)) <;> clear H K7
   ·intro h10 a H
    try have qm:=dT h10
    first
    | (exfalso;omega)
    | (exact absurd h10 Y)
    |skip
     refine kP H (SC (bS K6 O (SC (Rm O (Rd O (Ra O ?_))))));clear H K6;intro a H;refine aj ?_;refine bg ((n+1,f - 1,1,Gq)) (by exact H.sub ⟨O,O,O,aL⟩) ?_
     (try dsimp only);exact ⟨V,V,by rw [aM (show okW l n=true by simp only [okW,dH];omega),aM qm] at heq;exact heq,bK⟩
   intro h10 a H
   try have qm:=dF h10
   first
   | (exfalso;omega)
   | (exact absurd h10 Y)
   |skip
    refine kP H (SR fun _ K8=>Rm O (Rm O ?_));clear H;intro a H;refine aT iN fq n H wn O O V V O ?_;clear H;intro a H;refine dX fq (cs:=[_,_,_]) H wn O O (fun j v hj=>H.hp.aR (jW bK (k:=n) V j v hj)) O ?_;clear H;intro a H;refine eU bE aF [_] [_] H wn O O O O O (by intro i q h;match i,h with|0,h=>exact h|n+1,h=>simp at h) O O ?_;clear H;intro oN a w IQ H;obtain ⟨Gq,fV,hq,H⟩:=H.lQ (sz:=1) (d:=eZ 6) O (lF _ 6);replace bK:=bK.mono fV;refine s_call kM H wn O (kQ _ _ H.ro l[n] [6] _ hq) O ?_;clear H;rintro v23 _ a w ⟨rfl,rfl⟩ - H;rw [is1 V 6] at H;refine kH H (aB K8 O (Cd O ?_ ?_)) <;> clear H K8
    ·intro dZ a H
     try have lg:=dT dZ
     first
     | (exfalso;omega)
     | (exact absurd dZ Y)
     |skip
      refine kP H (Kc K6 (SC (Rm O (Rd O (Ra O ?_)))));clear H K6;intro a H;refine aj ?_;refine bg ((n+1,f - 1,kd,Gq)) (by exact H.sub ⟨O,O,O,aL⟩) ?_
      (try dsimp only);exact ⟨V,V,by rw [aM (show okW l n=true by simp only [okW,dH];omega),aJ (show ¬ iV l n=5 by omega)] at heq;exact heq,bK⟩
    intro dZ a H
    try have lg:=dF dZ
    first
    | (exfalso;omega)
    | (exact absurd dZ Y)
    |skip
     refine kP H (SR fun _ K9=>Rm O (Rc O (Rm O (Sp 27 O ?_ ?_)))) <;> clear H
     ·intro h27 a H
      try have p27:=dT h27
      first
      | (exfalso;omega)
      | (exact absurd h27 Y)
      |skip
       refine kH H (YM h27 O ?_);clear H;intro a H;refine nK _ H (wg H O O h27) O O O V V O ?_;clear H;intro a H;refine kH H (YM h27 O (YL iN h27 O (YC h27 O (Pt h27 O (Rm O (Sp 34 O ?_ ?_)))))) <;> clear H
       ·intro jG a H
        try have p34:=dT jG
        first
        | (exfalso;omega)
        | (exact absurd jG Y)
        |skip
         refine kH H (YM jG O (YM jG O ?_));clear H;intro a H;refine aT iN fq n H (wg H O O jG) O O V V O ?_;clear H;intro a H;refine dX fq (cs:=[_,_,_]) H (wg H O O jG) O O (fun j v hj=>H.hp.aR (jW bK (k:=n) V j v hj)) O ?_;clear H;intro a H;refine eU bE aF [_] [_] H (wg H O O jG) O O O O O (by intro i q h;match i,h with|0,h=>exact h|n+1,h=>simp at h) O O ?_;clear H;intro mH a w ES H;obtain ⟨Gq,fV,hq,H⟩:=H.lQ (sz:=1) (d:=eZ 11) O (lF _ 11);replace bK:=bK.mono fV;refine s_call kM H (wg H O O jG) O (kQ _ _ H.ro l[n] [11] _ hq) O ?_;clear H;rintro v40 _ a w ⟨rfl,rfl⟩ - H;rw [is1 V 11] at H;refine kH H (Pt jG O (Rm O (Sp 42 O ?_ ?_))) <;> clear H
         ·intro jy a H
          try have p42:=dT jy
          first
          | (exfalso;omega)
          | (exact absurd jy Y)
          |skip
           refine kH H (YM jy O (YM jy O ?_));clear H;intro a H;refine zO _ H (wg H O O jy) O O O V V O ?_;clear H;intro a H;refine aT iN fq (n - 1) H (wg H O O jy) O O V V O ?_;clear H;intro a H;refine dX fq (cs:=[_,_,_]) H (wg H O O jy) O O (fun j v hj=>H.hp.aR (jW bK (k:=(n - 1)) V j v hj)) O ?_;clear H;intro a H;refine eU bE aF [_] [_] H (wg H O O jy) O O O O O (by intro i q h;match i,h with|0,h=>exact h|n+1,h=>simp at h) O O ?_;clear H;intro b48 a w hb48 H;obtain ⟨Gq,fV,hq,H⟩:=H.lQ (sz:=1) (d:=eZ 5) O (lF _ 5);replace bK:=bK.mono fV;refine s_call kM H (wg H O O jy) O (kQ _ _ H.ro l[(n - 1)] [5] _ hq) O ?_;clear H;rintro v49 _ a w ⟨rfl,rfl⟩ - H;rw [is1 V 5] at H;refine kH H (Pt jy O (Rm O (Sp 51 O ?_ ?_))) <;> clear H
           ·intro kN a H
            try have p51:=dT kN
            first
            | (exfalso;omega)
            | (exact absurd kN Y)
            |skip
             refine kH H (YM kN O (YM kN O ?_));clear H;intro a H;refine nK _ H (wg H O O kN) O O O V V O ?_;clear H;intro a H;refine aT iN fq (n+1) H (wg H O O kN) O O V V O ?_;clear H;intro a H;refine dX fq (cs:=[_,_,_]) H (wg H O O kN) O O (fun j v hj=>H.hp.aR (jW bK (k:=(n+1)) V j v hj)) O ?_;clear H;intro a H;refine eU bE aF [_] [_] H (wg H O O kN) O O O O O (by intro i q h;match i,h with|0,h=>exact h|n+1,h=>simp at h) O O ?_;clear H;intro TN a w XH H;obtain ⟨Gq,fV,hq,H⟩:=H.lQ (sz:=1) (d:=eZ 5) O (lF _ 5);replace bK:=bK.mono fV;refine s_call kM H (wg H O O kN) O (kQ _ _ H.ro l[(n+1)] [5] _ hq) O ?_;clear H;rintro v58 _ a w ⟨rfl,rfl⟩ - H;rw [is1 V 5] at H;refine kH H (Pt kN O (aB K9 O (Cd O ?_ ?_))) <;> clear H K9
             ·intro aN a H
              try have fK:=dT aN
              first
              | (exfalso;omega)
              | (exact absurd aN Y)
              |skip
               refine kP H (Kc K6 (SC (Rm O (Rd O (Ra O ?_)))));clear H K6;intro a H;refine aj ?_;refine bg ((n+1,f - 1,kd,Gq)) (by exact H.sub ⟨O,O,O,aL⟩) ?_
               (try dsimp only);exact ⟨V,V,by rw [aM (show okW l n=true by simp only [okW,dH];omega),aJ (show ¬ iV l n=5 by omega)] at heq;exact heq,bK⟩
             intro aN a H
             try have fK:=dF aN
             first
             | (exfalso;omega)
             | (exact absurd aN Y)
             |skip
              refine kP H (SR fun _ aP=>Rm O (Rc O (Rm O (Sp 63 O ?_ ?_)))) <;> clear H
              ·intro h63 a H
               try have p63:=dT h63
               first
               | (exfalso;omega)
               | (exact absurd h63 Y)
               |skip
                refine kH H (YM h63 O ?_);clear H;intro a H;refine nK _ H (wg H O O h63) O O O V V O ?_;clear H;intro a H;refine kH H (YM h63 O (YL iN h63 O (YC h63 O (Pt h63 O (Rm O (Sp 70 O ?_ ?_)))))) <;> clear H
                ·intro cZ a H
                 try have p70:=dT cZ
                 first
                 | (exfalso;omega)
                 | (exact absurd cZ Y)
                 |skip
                  refine kH H (YM cZ O (YM cZ O ?_));clear H;intro a H;refine aT iN fq n H (wg H O O cZ) O O V V O ?_;clear H;intro a H;refine dX fq (cs:=[_,_,_]) H (wg H O O cZ) O O (fun j v hj=>H.hp.aR (jW bK (k:=n) V j v hj)) O ?_;clear H;intro a H;refine eU bE aF [_] [_] H (wg H O O cZ) O O O O O (by intro i q h;match i,h with|0,h=>exact h|n+1,h=>simp at h) O O ?_;clear H;intro Eh a w EU H;obtain ⟨Gq,fV,hq,H⟩:=H.lQ (sz:=1) (d:=eZ 10) O (lF _ 10);replace bK:=bK.mono fV;refine s_call kM H (wg H O O cZ) O (kQ _ _ H.ro l[n] [10] _ hq) O ?_;clear H;rintro v76 _ a w ⟨rfl,rfl⟩ - H;rw [is1 V 10] at H;refine kH H (Pt cZ O (Rm O (Sp 78 O ?_ ?_))) <;> clear H
                  ·intro bU a H
                   try have wQ:=dT bU
                   first
                   | (exfalso;omega)
                   | (exact absurd bU Y)
                   |skip
                    refine kH H (YM bU O (YM bU O ?_));clear H;intro a H;refine zO _ H (wg H O O bU) O O O V V O ?_;clear H;intro a H;refine aT iN fq (n - 1) H (wg H O O bU) O O V V O ?_;clear H;intro a H;refine dX fq (cs:=[_,_,_]) H (wg H O O bU) O O (fun j v hj=>H.hp.aR (jW bK (k:=(n - 1)) V j v hj)) O ?_;clear H;intro a H;refine eU bE aF [_] [_] H (wg H O O bU) O O O O O (by intro i q h;match i,h with|0,h=>exact h|n+1,h=>simp at h) O O ?_;clear H;intro Ei a w EW H;obtain ⟨Gq,fV,hq,H⟩:=H.lQ (sz:=1) (d:=eZ 6) O (lF _ 6);replace bK:=bK.mono fV;refine s_call kM H (wg H O O bU) O (kQ _ _ H.ro l[(n - 1)] [6] _ hq) O ?_;clear H;rintro v85 _ a w ⟨rfl,rfl⟩ - H;rw [is1 V 6] at H;refine kH H (Pt bU O (Rm O (Sp 87 O ?_ ?_))) <;> clear H
                    ·intro h87 a H
                     try have wR:=dT h87
                     first
                     | (exfalso;omega)
                     | (exact absurd h87 Y)
                     |skip
                      refine kH H (YM h87 O (YM h87 O ?_));clear H;intro a H;refine nK _ H (wg H O O h87) O O O V V O ?_;clear H;intro a H;refine aT iN fq (n+1) H (wg H O O h87) O O V V O ?_;clear H;intro a H;refine dX fq (cs:=[_,_,_]) H (wg H O O h87) O O (fun j v hj=>H.hp.aR (jW bK (k:=(n+1)) V j v hj)) O ?_;clear H;intro a H;refine eU bE aF [_] [_] H (wg H O O h87) O O O O O (by intro i q h;match i,h with|0,h=>exact h|n+1,h=>simp at h) O O ?_;clear H;intro Ej a w EX H;obtain ⟨Gq,fV,hq,H⟩:=H.lQ (sz:=1) (d:=eZ 6) O (lF _ 6);replace bK:=bK.mono fV;refine s_call kM H (wg H O O h87) O (kQ _ _ H.ro l[(n+1)] [6] _ hq) O ?_;clear H;rintro F9 _ a w ⟨rfl,rfl⟩ - H;rw [is1 V 6] at H;refine kH H (Pt h87 O (aB aP O (Cd O ?_ ?_))) <;> clear H aP
                      ·intro gF a H
                       try have p60:=dT gF
                       first
                       | (exfalso;omega)
                       | (exact absurd gF Y)
                       |skip
                        refine kP H (Kc K6 (SC (Rm O (Rd O (Ra O ?_)))));clear H K6;intro a H;refine aj ?_;refine bg ((n+1,f - 1,kd,Gq)) (by exact H.sub ⟨O,O,O,aL⟩) ?_
                        (try dsimp only);exact ⟨V,V,by rw [aM (show okW l n=true by simp only [okW,dH];omega),aJ (show ¬ iV l n=5 by omega)] at heq;exact heq,bK⟩
                      intro gF a H
                      try have p60:=dF gF
                      first
                      | (exfalso;omega)
                      | (exact absurd gF Y)
                      |skip
                       refine kP H (SR fun _ bH=>Rm O (Rm O (Ra O (aB bH O ?_))));clear H bH;intro a H;refine aV ?_;refine (aY H results79 (.cons (aD H O) (.cons (aD H O) .nil)) ?_).1
                       have hfin:(n,kd)=jB l:=by
                        first
                         | exact heq
                         | (rw [aJ (show ¬ okW l n=true by simp only [okW,dH];omega)] at heq;exact heq)
                       exact H.rt (by rw [<- hfin])
                    intro h87 a H
                    try have wR:=dF h87
                    first
                    | (exfalso;omega)
                    | (exact absurd h87 Y)
                    |skip
                     refine kH H (aQ h87 O (aO h87 O (aO h87 O (Pf h87 O (aB aP O (Cf O O (SR fun _ bL=>Rm O (Rm O (Ra O (aB bL O ?_))))))))));clear H aP bL;intro a H;refine aV ?_;refine (aY H results79 (.cons (aD H O) (.cons (aD H O) .nil)) ?_).1
                     have hfin:(n,kd)=jB l:=by
                      first
                       | exact heq
                       | (rw [aJ (show ¬ okW l n=true by simp only [okW,dH];omega)] at heq;exact heq)
                     exact H.rt (by rw [<- hfin])
                  intro bU a H
                  try have wQ:=dF bU
                  first
                  | (exfalso;omega)
                  | (exact absurd bU Y)
                  |skip
                   refine kH H (aQ bU O (aO bU O (aO bU O (Pf bU O (Rm O (aQ O O (aO O O (aO O O (Pf O O (aB aP O (Cf O O (SR fun _ bI=>Rm O (Rm O (Ra O (aB bI O ?_)))))))))))))));clear H aP bI;intro a H;refine aV ?_;refine (aY H results79 (.cons (aD H O) (.cons (aD H O) .nil)) ?_).1
                   have hfin:(n,kd)=jB l:=by
                    first
                     | exact heq
                     | (rw [aJ (show ¬ okW l n=true by simp only [okW,dH];omega)] at heq;exact heq)
                   exact H.rt (by rw [<- hfin])
                intro cZ a H
                try have p70:=dF cZ
                first
                | (exfalso;omega)
                | (exact absurd cZ Y)
                |skip
                 refine kH H (aQ cZ O (aQ cZ O (Pf cZ O (Rm O (aQ O O (aO O O (aO O O (Pf O O (Rm O (aQ O O (aO O O (aO O O (Pf O O (aB aP O (Cf O O (SR fun _ cB=>Rm O (Rm O (Ra O (aB cB O ?_)))))))))))))))))));clear H aP cB;intro a H;refine aV ?_;refine (aY H results79 (.cons (aD H O) (.cons (aD H O) .nil)) ?_).1
                 have hfin:(n,kd)=jB l:=by
                  first
                   | exact heq
                   | (rw [aJ (show ¬ okW l n=true by simp only [okW,dH];omega)] at heq;exact heq)
                 exact H.rt (by rw [<- hfin])
              intro h63 a H
              try have p63:=dF h63
              first
              | (exfalso;omega)
              | (exact absurd h63 Y)
              |skip
               refine kH H (aQ h63 O (aO h63 O (Pf h63 O (Rm O (aQ O O (aQ O O (Pf O O (Rm O (aQ O O (aO O O (aO O O (Pf O O (Rm O (aQ O O (aO O O (aO O O (Pf O O (aB aP O (Cf O O (SR fun _ dw=>Rm O (Rm O (Ra O (Ra O ?_)))))))))))))))))))))));clear H aP;intro a H;refine dw _ _ ?_;clear dw;refine aV ?_;refine (aY H results79 (.cons (aD H O) (.cons (aD H O) .nil)) ?_).1
               have hfin:(n,kd)=jB l:=by
                first
                 | exact heq
                 | (rw [aJ (show ¬ okW l n=true by simp only [okW,dH];omega)] at heq;exact heq)
               exact H.rt (by rw [<- hfin])
           intro kN a H
           try have p51:=dF kN
           first
           | (exfalso;omega)
           | (exact absurd kN Y)
           |skip
            refine kH H (aQ kN O (aO kN O (aO kN O (Pf kN O (aB K9 O (Cf O O (SR fun _ dN=>Rm O (Rc O (Rm O (Sp 63 O ?_ ?_)))))))))) <;> clear H K9
            ·intro h63 a H
             try have p63:=dT h63
             first
             | (exfalso;omega)
             | (exact absurd h63 Y)
             |skip
              refine kH H (YM h63 O ?_);clear H;intro a H;refine nK _ H (wg H O O h63) O O O V V O ?_;clear H;intro a H;refine kH H (YM h63 O (YL iN h63 O (YC h63 O (Pt h63 O (Rm O (Sp 70 O ?_ ?_)))))) <;> clear H
              ·intro cZ a H
               try have p70:=dT cZ
               first
               | (exfalso;omega)
               | (exact absurd cZ Y)
               |skip
                refine kH H (YM cZ O (YM cZ O ?_));clear H;intro a H;refine aT iN fq n H (wg H O O cZ) O O V V O ?_;clear H;intro a H;refine dX fq (cs:=[_,_,_]) H (wg H O O cZ) O O (fun j v hj=>H.hp.aR (jW bK (k:=n) V j v hj)) O ?_;clear H;intro a H;refine eU bE aF [_] [_] H (wg H O O cZ) O O O O O (by intro i q h;match i,h with|0,h=>exact h|n+1,h=>simp at h) O O ?_;clear H;intro Eh a w EU H;obtain ⟨Gq,fV,hq,H⟩:=H.lQ (sz:=1) (d:=eZ 10) O (lF _ 10);replace bK:=bK.mono fV;refine s_call kM H (wg H O O cZ) O (kQ _ _ H.ro l[n] [10] _ hq) O ?_;clear H;rintro v76 _ a w ⟨rfl,rfl⟩ - H;rw [is1 V 10] at H;refine kH H (Pt cZ O (Rm O (Sp 78 O ?_ ?_))) <;> clear H
                ·intro bU a H
                 try have wQ:=dT bU
                 first
                 | (exfalso;omega)
                 | (exact absurd bU Y)
                 |skip
                  refine kH H (YM bU O (YM bU O ?_));clear H;intro a H;refine zO _ H (wg H O O bU) O O O V V O ?_;clear H;intro a H;refine aT iN fq (n - 1) H (wg H O O bU) O O V V O ?_;clear H;intro a H;refine dX fq (cs:=[_,_,_]) H (wg H O O bU) O O (fun j v hj=>H.hp.aR (jW bK (k:=(n - 1)) V j v hj)) O ?_;clear H;intro a H;refine eU bE aF [_] [_] H (wg H O O bU) O O O O O (by intro i q h;match i,h with|0,h=>exact h|n+1,h=>simp at h) O O ?_;clear H;intro Ei a w EW H;obtain ⟨Gq,fV,hq,H⟩:=H.lQ (sz:=1) (d:=eZ 6) O (lF _ 6);replace bK:=bK.mono fV;refine s_call kM H (wg H O O bU) O (kQ _ _ H.ro l[(n - 1)] [6] _ hq) O ?_;clear H;rintro v85 _ a w ⟨rfl,rfl⟩ - H;rw [is1 V 6] at H;refine kH H (Pt bU O (Rm O (Sp 87 O ?_ ?_))) <;> clear H
                  ·intro h87 a H
                   try have wR:=dT h87
                   first
                   | (exfalso;omega)
                   | (exact absurd h87 Y)
                   |skip
                    refine kH H (YM h87 O (YM h87 O ?_));clear H;intro a H;refine nK _ H (wg H O O h87) O O O V V O ?_;clear H;intro a H;refine aT iN fq (n+1) H (wg H O O h87) O O V V O ?_;clear H;intro a H;refine dX fq (cs:=[_,_,_]) H (wg H O O h87) O O (fun j v hj=>H.hp.aR (jW bK (k:=(n+1)) V j v hj)) O ?_;clear H;intro a H;refine eU bE aF [_] [_] H (wg H O O h87) O O O O O (by intro i q h;match i,h with|0,h=>exact h|n+1,h=>simp at h) O O ?_;clear H;intro Ej a w EX H;obtain ⟨Gq,fV,hq,H⟩:=H.lQ (sz:=1) (d:=eZ 6) O (lF _ 6);replace bK:=bK.mono fV;refine s_call kM H (wg H O O h87) O (kQ _ _ H.ro l[(n+1)] [6] _ hq) O ?_;clear H;rintro F9 _ a w ⟨rfl,rfl⟩ - H;rw [is1 V 6] at H;refine kH H (Pt h87 O (aB dN O (Cd O ?_ ?_))) <;> clear H dN
                    ·intro gF a H
                     try have p60:=dT gF
                     first
                     | (exfalso;omega)
                     | (exact absurd gF Y)
                     |skip
                      refine kP H (Kc K6 (SC (Rm O (Rd O (Ra O ?_)))));clear H K6;intro a H;refine aj ?_;refine bg ((n+1,f - 1,kd,Gq)) (by exact H.sub ⟨O,O,O,aL⟩) ?_
                      (try dsimp only);exact ⟨V,V,by rw [aM (show okW l n=true by simp only [okW,dH];omega),aJ (show ¬ iV l n=5 by omega)] at heq;exact heq,bK⟩
                    intro gF a H
                    try have p60:=dF gF
                    first
                    | (exfalso;omega)
                    | (exact absurd gF Y)
                    |skip
                     refine kP H (SR fun _ eP=>Rm O (Rm O (Ra O (aB eP O ?_))));clear H eP;intro a H;refine aV ?_;refine (aY H results79 (.cons (aD H O) (.cons (aD H O) .nil)) ?_).1
                     have hfin:(n,kd)=jB l:=by
                      first
                       | exact heq
                       | (rw [aJ (show ¬ okW l n=true by simp only [okW,dH];omega)] at heq;exact heq)
                     exact H.rt (by rw [<- hfin])
                  intro h87 a H
                  try have wR:=dF h87
                  first
                  | (exfalso;omega)
                  | (exact absurd h87 Y)
                  |skip
                   refine kH H (aQ h87 O (aO h87 O (aO h87 O (Pf h87 O (aB dN O (Cf O O (SR fun _ fM=>Rm O (Rm O (Ra O (aB fM O ?_))))))))));clear H dN fM;intro a H;refine aV ?_;refine (aY H results79 (.cons (aD H O) (.cons (aD H O) .nil)) ?_).1
                   have hfin:(n,kd)=jB l:=by
                    first
                     | exact heq
                     | (rw [aJ (show ¬ okW l n=true by simp only [okW,dH];omega)] at heq;exact heq)
                   exact H.rt (by rw [<- hfin])
                intro bU a H
                try have wQ:=dF bU
                first
                | (exfalso;omega)
                | (exact absurd bU Y)
                |skip
                 refine kH H (aQ bU O (aO bU O (aO bU O (Pf bU O (Rm O (aQ O O (aO O O (aO O O (Pf O O (aB dN O (Cf O O (SR fun _ fO=>Rm O (Rm O (Ra O (aB fO O ?_)))))))))))))));clear H dN fO;intro a H;refine aV ?_;refine (aY H results79 (.cons (aD H O) (.cons (aD H O) .nil)) ?_).1
                 have hfin:(n,kd)=jB l:=by
                  first
                   | exact heq
                   | (rw [aJ (show ¬ okW l n=true by simp only [okW,dH];omega)] at heq;exact heq)
                 exact H.rt (by rw [<- hfin])
              intro cZ a H
              try have p70:=dF cZ
              first
              | (exfalso;omega)
              | (exact absurd cZ Y)
              |skip
               refine kH H (aQ cZ O (aQ cZ O (Pf cZ O (Rm O (aQ O O (aO O O (aO O O (Pf O O (Rm O (aQ O O (aO O O (aO O O (Pf O O (aB dN O (Cf O O (SR fun _ ig=>Rm O (Rm O (Ra O (aB ig O ?_)))))))))))))))))));clear H dN ig;intro a H;refine aV ?_;refine (aY H results79 (.cons (aD H O) (.cons (aD H O) .nil)) ?_).1
               have hfin:(n,kd)=jB l:=by
                first
                 | exact heq
                 | (rw [aJ (show ¬ okW l n=true by simp only [okW,dH];omega)] at heq;exact heq)
               exact H.rt (by rw [<- hfin])
            intro h63 a H
            try have p63:=dF h63
            first
            | (exfalso;omega)
            | (exact absurd h63 Y)
            |skip
             refine kH H (aQ h63 O (aO h63 O (Pf h63 O (Rm O (aQ O O (aQ O O (Pf O O (Rm O (aQ O O (aO O O (aO O O (Pf O O (Rm O (aQ O O (aO O O (aO O O (Pf O O (aB dN O (Cf O O (SR fun _ iq=>Rm O (Rm O (Ra O (Ra O ?_)))))))))))))))))))))));clear H dN;intro a H;refine iq _ _ ?_;clear iq;refine aV ?_;refine (aY H results79 (.cons (aD H O) (.cons (aD H O) .nil)) ?_).1
             have hfin:(n,kd)=jB l:=by
              first
               | exact heq
               | (rw [aJ (show ¬ okW l n=true by simp only [okW,dH];omega)] at heq;exact heq)
             exact H.rt (by rw [<- hfin])
         intro jy a H
         try have p42:=dF jy
         first
         | (exfalso;omega)
         | (exact absurd jy Y)
         |skip
          refine kH H (aQ jy O (aO jy O (aO jy O (Pf jy O (Rm O (aQ O O (aO O O (aO O O (Pf O O (aB K9 O (Cf O O (SR fun _ gM=>Rm O (Rc O (Rm O (Sp 63 O ?_ ?_))))))))))))))) <;> clear H K9
          ·intro h63 a H
           try have p63:=dT h63
           first
           | (exfalso;omega)
           | (exact absurd h63 Y)
           |skip
            refine kH H (YM h63 O ?_);clear H;intro a H;refine nK _ H (wg H O O h63) O O O V V O ?_;clear H;intro a H;refine kH H (YM h63 O (YL iN h63 O (YC h63 O (Pt h63 O (Rm O (Sp 70 O ?_ ?_)))))) <;> clear H
            ·intro cZ a H
             try have p70:=dT cZ
             first
             | (exfalso;omega)
             | (exact absurd cZ Y)
             |skip
              refine kH H (YM cZ O (YM cZ O ?_));clear H;intro a H;refine aT iN fq n H (wg H O O cZ) O O V V O ?_;clear H;intro a H;refine dX fq (cs:=[_,_,_]) H (wg H O O cZ) O O (fun j v hj=>H.hp.aR (jW bK (k:=n) V j v hj)) O ?_;clear H;intro a H;refine eU bE aF [_] [_] H (wg H O O cZ) O O O O O (by intro i q h;match i,h with|0,h=>exact h|n+1,h=>simp at h) O O ?_;clear H;intro Eh a w EU H;obtain ⟨Gq,fV,hq,H⟩:=H.lQ (sz:=1) (d:=eZ 10) O (lF _ 10);replace bK:=bK.mono fV;refine s_call kM H (wg H O O cZ) O (kQ _ _ H.ro l[n] [10] _ hq) O ?_;clear H;rintro v76 _ a w ⟨rfl,rfl⟩ - H;rw [is1 V 10] at H;refine kH H (Pt cZ O (Rm O (Sp 78 O ?_ ?_))) <;> clear H
              ·intro bU a H
               try have wQ:=dT bU
               first
               | (exfalso;omega)
               | (exact absurd bU Y)
               |skip
                refine kH H (YM bU O (YM bU O ?_));clear H;intro a H;refine zO _ H (wg H O O bU) O O O V V O ?_;clear H;intro a H;refine aT iN fq (n - 1) H (wg H O O bU) O O V V O ?_;clear H;intro a H;refine dX fq (cs:=[_,_,_]) H (wg H O O bU) O O (fun j v hj=>H.hp.aR (jW bK (k:=(n - 1)) V j v hj)) O ?_;clear H;intro a H;refine eU bE aF [_] [_] H (wg H O O bU) O O O O O (by intro i q h;match i,h with|0,h=>exact h|n+1,h=>simp at h) O O ?_;clear H;intro Ei a w EW H;obtain ⟨Gq,fV,hq,H⟩:=H.lQ (sz:=1) (d:=eZ 6) O (lF _ 6);replace bK:=bK.mono fV;refine s_call kM H (wg H O O bU) O (kQ _ _ H.ro l[(n - 1)] [6] _ hq) O ?_;clear H;rintro v85 _ a w ⟨rfl,rfl⟩ - H;rw [is1 V 6] at H;refine kH H (Pt bU O (Rm O (Sp 87 O ?_ ?_))) <;> clear H
                ·intro h87 a H
                 try have wR:=dT h87
                 first
                 | (exfalso;omega)
                 | (exact absurd h87 Y)
                 |skip
                  refine kH H (YM h87 O (YM h87 O ?_));clear H;intro a H;refine nK _ H (wg H O O h87) O O O V V O ?_;clear H;intro a H;refine aT iN fq (n+1) H (wg H O O h87) O O V V O ?_;clear H;intro a H;refine dX fq (cs:=[_,_,_]) H (wg H O O h87) O O (fun j v hj=>H.hp.aR (jW bK (k:=(n+1)) V j v hj)) O ?_;clear H;intro a H;refine eU bE aF [_] [_] H (wg H O O h87) O O O O O (by intro i q h;match i,h with|0,h=>exact h|n+1,h=>simp at h) O O ?_;clear H;intro Ej a w EX H;obtain ⟨Gq,fV,hq,H⟩:=H.lQ (sz:=1) (d:=eZ 6) O (lF _ 6);replace bK:=bK.mono fV;refine s_call kM H (wg H O O h87) O (kQ _ _ H.ro l[(n+1)] [6] _ hq) O ?_;clear H;rintro F9 _ a w ⟨rfl,rfl⟩ - H;rw [is1 V 6] at H;refine kH H (Pt h87 O (aB gM O (Cd O ?_ ?_))) <;> clear H gM
                  ·intro gF a H
                   try have p60:=dT gF
                   first
                   | (exfalso;omega)
                   | (exact absurd gF Y)
                   |skip
                    refine kP H (Kc K6 (SC (Rm O (Rd O (Ra O ?_)))));clear H K6;intro a H;refine aj ?_;refine bg ((n+1,f - 1,kd,Gq)) (by exact H.sub ⟨O,O,O,aL⟩) ?_
                    (try dsimp only);exact ⟨V,V,by rw [aM (show okW l n=true by simp only [okW,dH];omega),aJ (show ¬ iV l n=5 by omega)] at heq;exact heq,bK⟩
                  intro gF a H
                  try have p60:=dF gF
                  first
                  | (exfalso;omega)
                  | (exact absurd gF Y)
                  |skip
                   refine kP H (SR fun _ jC=>Rm O (Rm O (Ra O (aB jC O ?_))));clear H jC;intro a H;refine aV ?_;refine (aY H results79 (.cons (aD H O) (.cons (aD H O) .nil)) ?_).1
                   have hfin:(n,kd)=jB l:=by
                    first
                     | exact heq
                     | (rw [aJ (show ¬ okW l n=true by simp only [okW,dH];omega)] at heq;exact heq)
                   exact H.rt (by rw [<- hfin])
                intro h87 a H
                try have wR:=dF h87
                first
                | (exfalso;omega)
                | (exact absurd h87 Y)
                |skip
                 refine kH H (aQ h87 O (aO h87 O (aO h87 O (Pf h87 O (aB gM O (Cf O O (SR fun _ iw=>Rm O (Rm O (Ra O (aB iw O ?_))))))))));clear H gM iw;intro a H;refine aV ?_;refine (aY H results79 (.cons (aD H O) (.cons (aD H O) .nil)) ?_).1
                 have hfin:(n,kd)=jB l:=by
                  first
                   | exact heq
                   | (rw [aJ (show ¬ okW l n=true by simp only [okW,dH];omega)] at heq;exact heq)
                 exact H.rt (by rw [<- hfin])
              intro bU a H
              try have wQ:=dF bU
              first
              | (exfalso;omega)
              | (exact absurd bU Y)
              |skip
               refine kH H (aQ bU O (aO bU O (aO bU O (Pf bU O (Rm O (aQ O O (aO O O (aO O O (Pf O O (aB gM O (Cf O O (SR fun _ lu=>Rm O (Rm O (Ra O (aB lu O ?_)))))))))))))));clear H gM lu;intro a H;refine aV ?_;refine (aY H results79 (.cons (aD H O) (.cons (aD H O) .nil)) ?_).1
               have hfin:(n,kd)=jB l:=by
                first
                 | exact heq
                 | (rw [aJ (show ¬ okW l n=true by simp only [okW,dH];omega)] at heq;exact heq)
               exact H.rt (by rw [<- hfin])
            intro cZ a H
            try have p70:=dF cZ
            first
            | (exfalso;omega)
            | (exact absurd cZ Y)
            |skip
             refine kH H (aQ cZ O (aQ cZ O (Pf cZ O (Rm O (aQ O O (aO O O (aO O O (Pf O O (Rm O (aQ O O (aO O O (aO O O (Pf O O (aB gM O (Cf O O (SR fun _ lX=>Rm O (Rm O (Ra O (aB lX O ?_)))))))))))))))))));clear H gM lX;intro a H;refine aV ?_;refine (aY H results79 (.cons (aD H O) (.cons (aD H O) .nil)) ?_).1
             have hfin:(n,kd)=jB l:=by
              first
               | exact heq
               | (rw [aJ (show ¬ okW l n=true by simp only [okW,dH];omega)] at heq;exact heq)
             exact H.rt (by rw [<- hfin])
          intro h63 a H
          try have p63:=dF h63
          first
          | (exfalso;omega)
          | (exact absurd h63 Y)
          |skip
           refine kH H (aQ h63 O (aO h63 O (Pf h63 O (Rm O (aQ O O (aQ O O (Pf O O (Rm O (aQ O O (aO O O (aO O O (Pf O O (Rm O (aQ O O (aO O O (aO O O (Pf O O (aB gM O (Cf O O (SR fun _ nN=>Rm O (Rm O (Ra O (Ra O ?_)))))))))))))))))))))));clear H gM;intro a H;refine nN _ _ ?_;clear nN;refine aV ?_;refine (aY H results79 (.cons (aD H O) (.cons (aD H O) .nil)) ?_).1
           have hfin:(n,kd)=jB l:=by
            first
             | exact heq
             | (rw [aJ (show ¬ okW l n=true by simp only [okW,dH];omega)] at heq;exact heq)
           exact H.rt (by rw [<- hfin])
       intro jG a H
       try have p34:=dF jG
       first
       | (exfalso;omega)
       | (exact absurd jG Y)
       |skip
        refine kH H (aQ jG O (aQ jG O (Pf jG O (Rm O (aQ O O (aO O O (aO O O (Pf O O (Rm O (aQ O O (aO O O (aO O O (Pf O O (aB K9 O (Cf O O (SR fun _ ji=>Rm O (Rc O (Rm O (Sp 63 O ?_ ?_))))))))))))))))))) <;> clear H K9
        ·intro h63 a H
         try have p63:=dT h63
         first
         | (exfalso;omega)
         | (exact absurd h63 Y)
         |skip
          refine kH H (YM h63 O ?_);clear H;intro a H;refine nK _ H (wg H O O h63) O O O V V O ?_;clear H;intro a H;refine kH H (YM h63 O (YL iN h63 O (YC h63 O (Pt h63 O (Rm O (Sp 70 O ?_ ?_)))))) <;> clear H
          ·intro cZ a H
           try have p70:=dT cZ
           first
           | (exfalso;omega)
           | (exact absurd cZ Y)
           |skip
            refine kH H (YM cZ O (YM cZ O ?_));clear H;intro a H;refine aT iN fq n H (wg H O O cZ) O O V V O ?_;clear H;intro a H;refine dX fq (cs:=[_,_,_]) H (wg H O O cZ) O O (fun j v hj=>H.hp.aR (jW bK (k:=n) V j v hj)) O ?_;clear H;intro a H;refine eU bE aF [_] [_] H (wg H O O cZ) O O O O O (by intro i q h;match i,h with|0,h=>exact h|n+1,h=>simp at h) O O ?_;clear H;intro Eh a w EU H;obtain ⟨Gq,fV,hq,H⟩:=H.lQ (sz:=1) (d:=eZ 10) O (lF _ 10);replace bK:=bK.mono fV;refine s_call kM H (wg H O O cZ) O (kQ _ _ H.ro l[n] [10] _ hq) O ?_;clear H;rintro v76 _ a w ⟨rfl,rfl⟩ - H;rw [is1 V 10] at H;refine kH H (Pt cZ O (Rm O (Sp 78 O ?_ ?_))) <;> clear H
            ·intro bU a H
             try have wQ:=dT bU
             first
             | (exfalso;omega)
             | (exact absurd bU Y)
             |skip
              refine kH H (YM bU O (YM bU O ?_));clear H;intro a H;refine zO _ H (wg H O O bU) O O O V V O ?_;clear H;intro a H;refine aT iN fq (n - 1) H (wg H O O bU) O O V V O ?_;clear H;intro a H;refine dX fq (cs:=[_,_,_]) H (wg H O O bU) O O (fun j v hj=>H.hp.aR (jW bK (k:=(n - 1)) V j v hj)) O ?_;clear H;intro a H;refine eU bE aF [_] [_] H (wg H O O bU) O O O O O (by intro i q h;match i,h with|0,h=>exact h|n+1,h=>simp at h) O O ?_;clear H;intro Ei a w EW H;obtain ⟨Gq,fV,hq,H⟩:=H.lQ (sz:=1) (d:=eZ 6) O (lF _ 6);replace bK:=bK.mono fV;refine s_call kM H (wg H O O bU) O (kQ _ _ H.ro l[(n - 1)] [6] _ hq) O ?_;clear H;rintro v85 _ a w ⟨rfl,rfl⟩ - H;rw [is1 V 6] at H;refine kH H (Pt bU O (Rm O (Sp 87 O ?_ ?_))) <;> clear H
              ·intro h87 a H
               try have wR:=dT h87
               first
               | (exfalso;omega)
               | (exact absurd h87 Y)
               |skip
                refine kH H (YM h87 O (YM h87 O ?_));clear H;intro a H;refine nK _ H (wg H O O h87) O O O V V O ?_;clear H;intro a H;refine aT iN fq (n+1) H (wg H O O h87) O O V V O ?_;clear H;intro a H;refine dX fq (cs:=[_,_,_]) H (wg H O O h87) O O (fun j v hj=>H.hp.aR (jW bK (k:=(n+1)) V j v hj)) O ?_;clear H;intro a H;refine eU bE aF [_] [_] H (wg H O O h87) O O O O O (by intro i q h;match i,h with|0,h=>exact h|n+1,h=>simp at h) O O ?_;clear H;intro Ej a w EX H;obtain ⟨Gq,fV,hq,H⟩:=H.lQ (sz:=1) (d:=eZ 6) O (lF _ 6);replace bK:=bK.mono fV;refine s_call kM H (wg H O O h87) O (kQ _ _ H.ro l[(n+1)] [6] _ hq) O ?_;clear H;rintro F9 _ a w ⟨rfl,rfl⟩ - H;rw [is1 V 6] at H;refine kH H (Pt h87 O (aB ji O (Cd O ?_ ?_))) <;> clear H ji
                ·intro gF a H
                 try have p60:=dT gF
                 first
                 | (exfalso;omega)
                 | (exact absurd gF Y)
                 |skip
                  refine kP H (Kc K6 (SC (Rm O (Rd O (Ra O ?_)))));clear H K6;intro a H;refine aj ?_;refine bg ((n+1,f - 1,kd,Gq)) (by exact H.sub ⟨O,O,O,aL⟩) ?_
                  (try dsimp only);exact ⟨V,V,by rw [aM (show okW l n=true by simp only [okW,dH];omega),aJ (show ¬ iV l n=5 by omega)] at heq;exact heq,bK⟩
                intro gF a H
                try have p60:=dF gF
                first
                | (exfalso;omega)
                | (exact absurd gF Y)
                |skip
                 refine kP H (SR fun _ mW=>Rm O (Rm O (Ra O (aB mW O ?_))));clear H mW;intro a H;refine aV ?_;refine (aY H results79 (.cons (aD H O) (.cons (aD H O) .nil)) ?_).1
                 have hfin:(n,kd)=jB l:=by
                  first
                   | exact heq
                   | (rw [aJ (show ¬ okW l n=true by simp only [okW,dH];omega)] at heq;exact heq)
                 exact H.rt (by rw [<- hfin])
              intro h87 a H
              try have wR:=dF h87
              first
              | (exfalso;omega)
              | (exact absurd h87 Y)
              |skip
               refine kH H (aQ h87 O (aO h87 O (aO h87 O (Pf h87 O (aB ji O (Cf O O (SR fun _ mX=>Rm O (Rm O (Ra O (aB mX O ?_))))))))));clear H ji mX;intro a H;refine aV ?_;refine (aY H results79 (.cons (aD H O) (.cons (aD H O) .nil)) ?_).1
               have hfin:(n,kd)=jB l:=by
                first
                 | exact heq
                 | (rw [aJ (show ¬ okW l n=true by simp only [okW,dH];omega)] at heq;exact heq)
               exact H.rt (by rw [<- hfin])
            intro bU a H
            try have wQ:=dF bU
            first
            | (exfalso;omega)
            | (exact absurd bU Y)
            |skip
             refine kH H (aQ bU O (aO bU O (aO bU O (Pf bU O (Rm O (aQ O O (aO O O (aO O O (Pf O O (aB ji O (Cf O O (SR fun _ lY=>Rm O (Rm O (Ra O (aB lY O ?_)))))))))))))));clear H ji lY;intro a H;refine aV ?_;refine (aY H results79 (.cons (aD H O) (.cons (aD H O) .nil)) ?_).1
             have hfin:(n,kd)=jB l:=by
              first
               | exact heq
               | (rw [aJ (show ¬ okW l n=true by simp only [okW,dH];omega)] at heq;exact heq)
             exact H.rt (by rw [<- hfin])
          intro cZ a H
          try have p70:=dF cZ
          first
          | (exfalso;omega)
          | (exact absurd cZ Y)
          |skip
           refine kH H (aQ cZ O (aQ cZ O (Pf cZ O (Rm O (aQ O O (aO O O (aO O O (Pf O O (Rm O (aQ O O (aO O O (aO O O (Pf O O (aB ji O (Cf O O (SR fun _ nO=>Rm O (Rm O (Ra O (aB nO O ?_)))))))))))))))))));clear H ji nO;intro a H;refine aV ?_;refine (aY H results79 (.cons (aD H O) (.cons (aD H O) .nil)) ?_).1
           have hfin:(n,kd)=jB l:=by
            first
             | exact heq
             | (rw [aJ (show ¬ okW l n=true by simp only [okW,dH];omega)] at heq;exact heq)
           exact H.rt (by rw [<- hfin])
        intro h63 a H
        try have p63:=dF h63
        first
        | (exfalso;omega)
        | (exact absurd h63 Y)
        |skip
         refine kH H (aQ h63 O (aO h63 O (Pf h63 O (Rm O (aQ O O (aQ O O (Pf O O (Rm O (aQ O O (aO O O (aO O O (Pf O O (Rm O (aQ O O (aO O O (aO O O (Pf O O (aB ji O (Cf O O (SR fun _ nP=>Rm O (Rm O (Ra O (Ra O ?_)))))))))))))))))))))));clear H ji;intro a H;refine nP _ _ ?_;clear nP;refine aV ?_;refine (aY H results79 (.cons (aD H O) (.cons (aD H O) .nil)) ?_).1
         have hfin:(n,kd)=jB l:=by
          first
           | exact heq
           | (rw [aJ (show ¬ okW l n=true by simp only [okW,dH];omega)] at heq;exact heq)
         exact H.rt (by rw [<- hfin])
     intro h27 a H
     try have p27:=dF h27
     first
     | (exfalso;omega)
     | (exact absurd h27 Y)
     |skip
      refine kH H (aQ h27 O (aO h27 O (Pf h27 O (Rm O (aQ O O (aQ O O (Pf O O (Rm O (aQ O O (aO O O (aO O O (Pf O O (Rm O (aQ O O (aO O O (aO O O (Pf O O (aB K9 O (Cf O O (SR fun _ lJ=>Rm O (Rc O (Rm O (Sp 63 O ?_ ?_))))))))))))))))))))))) <;> clear H K9
      ·intro h63 a H
       try have p63:=dT h63
       first
       | (exfalso;omega)
       | (exact absurd h63 Y)
       |skip
        refine kH H (YM h63 O ?_);clear H;intro a H;refine nK _ H (wg H O O h63) O O O V V O ?_;clear H;intro a H;refine kH H (YM h63 O (YL iN h63 O (YC h63 O (Pt h63 O (Rm O (Sp 70 O ?_ ?_)))))) <;> clear H
        ·intro cZ a H
         try have p70:=dT cZ
         first
         | (exfalso;omega)
         | (exact absurd cZ Y)
         |skip
          refine kH H (YM cZ O (YM cZ O ?_));clear H;intro a H;refine aT iN fq n H (wg H O O cZ) O O V V O ?_;clear H;intro a H;refine dX fq (cs:=[_,_,_]) H (wg H O O cZ) O O (fun j v hj=>H.hp.aR (jW bK (k:=n) V j v hj)) O ?_;clear H;intro a H;refine eU bE aF [_] [_] H (wg H O O cZ) O O O O O (by intro i q h;match i,h with|0,h=>exact h|n+1,h=>simp at h) O O ?_;clear H;intro Eh a w EU H;obtain ⟨Gq,fV,hq,H⟩:=H.lQ (sz:=1) (d:=eZ 10) O (lF _ 10);replace bK:=bK.mono fV;refine s_call kM H (wg H O O cZ) O (kQ _ _ H.ro l[n] [10] _ hq) O ?_;clear H;rintro v76 _ a w ⟨rfl,rfl⟩ - H;rw [is1 V 10] at H;refine kH H (Pt cZ O (Rm O (Sp 78 O ?_ ?_))) <;> clear H
          ·intro bU a H
           try have wQ:=dT bU
           first
           | (exfalso;omega)
           | (exact absurd bU Y)
           |skip
            refine kH H (YM bU O (YM bU O ?_));clear H;intro a H;refine zO _ H (wg H O O bU) O O O V V O ?_;clear H;intro a H;refine aT iN fq (n - 1) H (wg H O O bU) O O V V O ?_;clear H;intro a H;refine dX fq (cs:=[_,_,_]) H (wg H O O bU) O O (fun j v hj=>H.hp.aR (jW bK (k:=(n - 1)) V j v hj)) O ?_;clear H;intro a H;refine eU bE aF [_] [_] H (wg H O O bU) O O O O O (by intro i q h;match i,h with|0,h=>exact h|n+1,h=>simp at h) O O ?_;clear H;intro Ei a w EW H;obtain ⟨Gq,fV,hq,H⟩:=H.lQ (sz:=1) (d:=eZ 6) O (lF _ 6);replace bK:=bK.mono fV;refine s_call kM H (wg H O O bU) O (kQ _ _ H.ro l[(n - 1)] [6] _ hq) O ?_;clear H;rintro v85 _ a w ⟨rfl,rfl⟩ - H;rw [is1 V 6] at H;refine kH H (Pt bU O (Rm O (Sp 87 O ?_ ?_))) <;> clear H
            ·intro h87 a H
             try have wR:=dT h87
             first
             | (exfalso;omega)
             | (exact absurd h87 Y)
             |skip
              refine kH H (YM h87 O (YM h87 O ?_));clear H;intro a H;refine nK _ H (wg H O O h87) O O O V V O ?_;clear H;intro a H;refine aT iN fq (n+1) H (wg H O O h87) O O V V O ?_;clear H;intro a H;refine dX fq (cs:=[_,_,_]) H (wg H O O h87) O O (fun j v hj=>H.hp.aR (jW bK (k:=(n+1)) V j v hj)) O ?_;clear H;intro a H;refine eU bE aF [_] [_] H (wg H O O h87) O O O O O (by intro i q h;match i,h with|0,h=>exact h|n+1,h=>simp at h) O O ?_;clear H;intro Ej a w EX H;obtain ⟨Gq,fV,hq,H⟩:=H.lQ (sz:=1) (d:=eZ 6) O (lF _ 6);replace bK:=bK.mono fV;refine s_call kM H (wg H O O h87) O (kQ _ _ H.ro l[(n+1)] [6] _ hq) O ?_;clear H;rintro F9 _ a w ⟨rfl,rfl⟩ - H;rw [is1 V 6] at H;refine kH H (Pt h87 O (aB lJ O (Cd O ?_ ?_))) <;> clear H lJ
              ·intro gF a H
               try have p60:=dT gF
               first
               | (exfalso;omega)
               | (exact absurd gF Y)
               |skip
                refine kP H (Kc K6 (SC (Rm O (Rd O (Ra O ?_)))));clear H K6;intro a H;refine aj ?_;refine bg ((n+1,f - 1,kd,Gq)) (by exact H.sub ⟨O,O,O,aL⟩) ?_
                (try dsimp only);exact ⟨V,V,by rw [aM (show okW l n=true by simp only [okW,dH];omega),aJ (show ¬ iV l n=5 by omega)] at heq;exact heq,bK⟩
              intro gF a H
              try have p60:=dF gF
              first
              | (exfalso;omega)
              | (exact absurd gF Y)
              |skip
               refine kP H (SR fun _ ko=>Rm O (Rm O (Ra O (aB ko O ?_))));clear H ko;intro a H;refine aV ?_;refine (aY H results79 (.cons (aD H O) (.cons (aD H O) .nil)) ?_).1
               have hfin:(n,kd)=jB l:=by
                first
                 | exact heq
                 | (rw [aJ (show ¬ okW l n=true by simp only [okW,dH];omega)] at heq;exact heq)
               exact H.rt (by rw [<- hfin])
            intro h87 a H
            try have wR:=dF h87
            first
            | (exfalso;omega)
            | (exact absurd h87 Y)
            |skip
             refine kH H (aQ h87 O (aO h87 O (aO h87 O (Pf h87 O (aB lJ O (Cf O O (SR fun _ oH=>Rm O (Rm O (Ra O (aB oH O ?_))))))))));clear H lJ oH;intro a H;refine aV ?_;refine (aY H results79 (.cons (aD H O) (.cons (aD H O) .nil)) ?_).1
             have hfin:(n,kd)=jB l:=by
              first
               | exact heq
               | (rw [aJ (show ¬ okW l n=true by simp only [okW,dH];omega)] at heq;exact heq)
             exact H.rt (by rw [<- hfin])
          intro bU a H
          try have wQ:=dF bU
          first
          | (exfalso;omega)
          | (exact absurd bU Y)
          |skip
           refine kH H (aQ bU O (aO bU O (aO bU O (Pf bU O (Rm O (aQ O O (aO O O (aO O O (Pf O O (aB lJ O (Cf O O (SR fun _ oI=>Rm O (Rm O (Ra O (aB oI O ?_)))))))))))))));clear H lJ oI;intro a H;refine aV ?_;refine (aY H results79 (.cons (aD H O) (.cons (aD H O) .nil)) ?_).1
           have hfin:(n,kd)=jB l:=by
            first
             | exact heq
             | (rw [aJ (show ¬ okW l n=true by simp only [okW,dH];omega)] at heq;exact heq)
           exact H.rt (by rw [<- hfin])
        intro cZ a H
        try have p70:=dF cZ
        first
        | (exfalso;omega)
        | (exact absurd cZ Y)
        |skip
         refine kH H (aQ cZ O (aQ cZ O (Pf cZ O (Rm O (aQ O O (aO O O (aO O O (Pf O O (Rm O (aQ O O (aO O O (aO O O (Pf O O (aB lJ O (Cf O O (SR fun _ qB=>Rm O (Rm O (Ra O (aB qB O ?_)))))))))))))))))));clear H lJ qB;intro a H;refine aV ?_;refine (aY H results79 (.cons (aD H O) (.cons (aD H O) .nil)) ?_).1
         have hfin:(n,kd)=jB l:=by
          first
           | exact heq
           | (rw [aJ (show ¬ okW l n=true by simp only [okW,dH];omega)] at heq;exact heq)
         exact H.rt (by rw [<- hfin])
      intro h63 a H
      try have p63:=dF h63
      first
      | (exfalso;omega)
      | (exact absurd h63 Y)
      |skip
       refine kH H (aQ h63 O (aO h63 O (Pf h63 O (Rm O (aQ O O (aQ O O (Pf O O (Rm O (aQ O O (aO O O (aO O O (Pf O O (Rm O (aQ O O (aO O O (aO O O (Pf O O (aB lJ O (Cf O O (SR fun _ lK=>Rm O (Rm O (Ra O (Ra O ?_)))))))))))))))))))))));clear H lJ;intro a H;refine lK _ _ ?_;clear lK;refine aV ?_;refine (aY H results79 (.cons (aD H O) (.cons (aD H O) .nil)) ?_).1
       have hfin:(n,kd)=jB l:=by
        first
         | exact heq
         | (rw [aJ (show ¬ okW l n=true by simp only [okW,dH];omega)] at heq;exact heq)
       exact H.rt (by rw [<- hfin])
 intro h7 a H
 try have p7:=dF h7
 first
 | (exfalso;omega)
 | (exact absurd h7 Y)
 |skip
  rw [acY V] at heq;refine dD ?_;refine K3 _ _ ?_;clear K3;refine kP H (SR fun _ lM=>Rm O (Rm O (Ra O (aB lM O ?_))));clear H lM;intro a H;refine aV ?_;refine (aY H results79 (.cons (aD H O) (.cons (aD H O) .nil)) ?_).1
  have hfin:(n,kd)=jB l:=by
   first
    | exact heq
    | (rw [aJ (show ¬ okW l n=true by simp only [okW,dH];omega)] at heq;exact heq)
  exact H.rt (by rw [<- hfin])
def sV (l:List eF):Nat->Nat->Nat
 | 0,n=>n
 | f+1,n=>if n < l.length∧(iV l n=2∨iV l n=3) then sV l f (n+1) else n
theorem Q6 {l:List eF} {f n:Nat} (hf:l.length - n<=f) (h:n < l.length∧(iV l n=2∨iV l n=3)):sV l f n=sV l (f - 1) (n+1):=by
 match f,hf with
 | 0,hf=>omega
 | f+1,_=>rw [sV,aM h];rfl
theorem Q5 {l:List eF} {f n:Nat} (h:¬ (n < l.length∧(iV l n=2∨iV l n=3))):sV l f n=n:=by
 match f with
 | 0=>rfl
 | f+1=>rw [sV,aJ h]
def lG (l:List eF):Nat × Int :=
 if iV l 0=5∨iV l 0=6 then jB l
 else if iV l 0=2∨iV l 0=3 then (sV l l.length 0,3)
 else if iV l 0=1 then (1,6)
 else if iV l 0=7 then (1,5)
 else (1,4)
theorem KI {G:GH} {b x y:Nat} (hb:G b=some (.cells #[vi x,vi y] 3 (0,0))):aC G (.sl 1 (([(x:Int),(y:Int)]).map eZ)) (.slice (some ⟨b,0,none⟩) 2 2) :=
 aC.mQ (xs:=[vi x,vi y]) hb O (bD _) Y (iU (bD _)) (uH _ [(x:Int),(y:Int)])
set_option maxHeartbeats 1000000 in
theorem ZN (G:GH) (w0:World) (hG:Hold G w0) (l:List eF) (v:av) (hv:aC G (.sl 3 (l.map eF.dat)) v) (hl:0 < l.length) :
  Calls prog 69 #[v] w0 (cO w0 G fun u G'=>u=.tuple #[vi (lG l).1,vi (lG l).2]):=by
 obtain ⟨A,c,rfl,hc1,hc2,-⟩:=hv.slice;have hml:maxLen=9223372036854775807:=rfl;rw [bN] at *;obtain ⟨b,o,rfl,-⟩:=En hv hl;have bK:=hv;refine eN [(0,_)] func69 O ntmps69 O O hG ?_;intro a H;refine kP H (SR fun _ K1=>Ra O (aB K1 O (SQ fun _ K2=>SB (SR fun _ K3=>Rm O ?_))));clear H K1;intro a H;refine aT iN fq 0 H wn O O V V O ?_;clear H;intro a H;refine dX fq (cs:=[_,_,_]) H wn O O (fun j v hj=>H.hp.aR (jW bK (k:=0) V j v hj)) O ?_;clear H;intro a H;refine eU bE aF [_,_] [_,_] H wn O O O O O (by intro i q h;match i,h with|0,h=>exact h|1,h=>exact h|n+2,h=>simp at h) O O ?_;clear H;intro b8 a w Oy H;obtain ⟨Gq,fV,Da,H⟩:=H.jd;have hq:=KI (x:=5) (y:=6) Da;replace bK:=bK.mono fV;refine s_call kM H wn O (kQ _ _ H.ro l[0] [5,6] _ hq) O ?_;clear H;rintro v9 _ a w ⟨rfl,rfl⟩ - H;rw [is2 V 5 6] at H;refine kH H (aB K3 O (Cd O ?_ ?_)) <;> clear H K3
 ·intro h4 a H
  try have p4:=dT h4
  first
  | (exfalso;omega)
  | (exact absurd h4 Y)
  |skip
   refine kP H (SR fun _ K4=>Rm O ?_);clear H;intro a H;refine s_call V6 H wn O (acW _ _ H.ro l _ bK) O ?_;clear H;rintro v11 _ a w rfl - H;(iterate 2 refine fZ H wn O O O ?_;clear H;intro a H);refine kH H (Ra O (aB K4 O ?_));clear H K4;intro a H;refine aV ?_;refine (aY H results69 (.cons (aD H O) (.cons (aD H O) .nil)) ?_).1;exact H.rt (by rw [lG,aM p4])
 intro h4 a H
 try have p4:=dF h4
 first
 | (exfalso;omega)
 | (exact absurd h4 Y)
 |skip
  refine kP H (SR fun _ K5=>Rm O ?_);clear H;intro a H;refine aT iN fq 0 H wn O O V V O ?_;clear H;intro a H;refine dX fq (cs:=[_,_,_]) H wn O O (fun j v hj=>H.hp.aR (jW bK (k:=0) V j v hj)) O ?_;clear H;intro a H;refine eU bE aF [_,_] [_,_] H wn O O O O O (by intro i q h;match i,h with|0,h=>exact h|1,h=>exact h|n+2,h=>simp at h) O O ?_;clear H;intro b18 a w Ox H;obtain ⟨Gq,fV,Da,H⟩:=H.jd;have hq:=KI (x:=2) (y:=3) Da;replace bK:=bK.mono fV;refine s_call kM H wn O (kQ _ _ H.ro l[0] [2,3] _ hq) O ?_;clear H;rintro v19 _ a w ⟨rfl,rfl⟩ - H;rw [is2 V 2 3] at H;refine kH H (aB K5 O (Cd O ?_ ?_)) <;> clear H K5
  ·intro fF a H
   try have jY:=dT fF
   first
   | (exfalso;omega)
   | (exact absurd fF Y)
   |skip
    refine iF (fun _ K6=>?_);refine xO ?_;skip;refine eG (ι:=Nat × Nat × GH) (Tc:=[(0,_)]) (Lc:=[]) (fun gh=>[(2,vi gh.1)]) (fun gh=>[]) (fun gh=>gh.2.2) (fun gh=>gh.1<=l.length∧l.length - gh.1<=gh.2.1∧sV l gh.2.1 gh.1=sV l l.length 0∧aC gh.2.2 (.sl 3 (l.map eF.dat)) (.slice (some ⟨b,o,none⟩) l.length c)) (fun gh=>l.length - gh.1) ((0,l.length,Gq)) (by exact H.sub ⟨O,O,aL⟩) ?_ ?_
    ·exact ⟨dU _,Nat.sub_le _ _,O,bK⟩
    clear H;rintro ⟨n,f,g⟩ a w hI H;dsimp only at hI H;obtain ⟨hn,hf,heq,bK⟩:=hI;dsimp only [lca,dB] at H;refine kP H (SQ fun _ K7=>SR fun _ K8=>Rm O (Rm O (Rl iN O (Rc O (Rm O (Sp 24 O ?_ ?_)))))) <;> clear H
    ·intro aN a H
     try have fK:=dT aN
     first
     | (exfalso;omega)
     | (exact absurd aN Y)
     |skip
      refine kH H (YM aN O (YM aN O ?_));clear H;intro a H;refine aT iN fq n H (wg H O O aN) O O V V O ?_;clear H;intro a H;refine dX fq (cs:=[_,_,_]) H (wg H O O aN) O O (fun j v hj=>H.hp.aR (jW bK (k:=n) V j v hj)) O ?_;clear H;intro a H;refine eU bE aF [_,_] [_,_] H (wg H O O aN) O O O O O (by intro i q h;match i,h with|0,h=>exact h|1,h=>exact h|n+2,h=>simp at h) O O ?_;clear H;intro b29 a w adY H;obtain ⟨Gq,fV,Da,H⟩:=H.jd;have hq:=KI (x:=2) (y:=3) Da;replace bK:=bK.mono fV;refine s_call kM H (wg H O O aN) O (kQ _ _ H.ro l[n] [2,3] _ hq) O ?_;clear H;rintro v30 _ a w ⟨rfl,rfl⟩ - H;rw [is2 V 2 3] at H;refine kH H (Pt aN O (Kz K8 (Cd O ?_ ?_))) <;> clear H K8
      ·intro h31 a H
       try have p31:=dT h31
       first
       | (exfalso;omega)
       | (exact absurd h31 Y)
       |skip
        refine kP H (Kc K7 (SB (SC (Rm O (Rd O (Ra O ?_))))));clear H K7;intro a H;refine aj ?_;refine bg ((n+1,f - 1,Gq)) (by exact H.sub ⟨O,O,aL⟩) ?_
        (try dsimp only);exact ⟨V,V,by rw [Q6 hf ⟨V,p31⟩] at heq;exact heq,bK⟩
      intro h31 a H
      try have p31:=dF h31
      first
      | (exfalso;omega)
      | (exact absurd h31 Y)
      |skip
       refine dD ?_;refine K6 _ _ ?_;clear K6;refine kP H (SR fun _ K9=>Rm O (Ra O (aB K9 O ?_)));clear H K9;intro a H;refine aV ?_;refine (aY H results69 (.cons (aD H O) (.cons (aD H O) .nil)) ?_).1;exact H.rt (by rw [lG,aJ p4,aM jY,<- heq,Q5 V])
    intro aN a H
    try have fK:=dF aN
    first
    | (exfalso;omega)
    | (exact absurd aN Y)
    |skip
     refine kH H (aQ aN O (aQ aN O (Pf aN O (Kz K8 (Cf O O ?_)))));clear H K8;intro a H;refine dD ?_;refine K6 _ _ ?_;clear K6;refine kP H (SR fun _ aP=>Rm O (Ra O (aB aP O ?_)));clear H aP;intro a H;refine aV ?_;refine (aY H results69 (.cons (aD H O) (.cons (aD H O) .nil)) ?_).1;exact H.rt (by rw [lG,aJ p4,aM jY,<- heq,Q5 V])
  intro fF a H
  try have jY:=dF fF
  first
  | (exfalso;omega)
  | (exact absurd fF Y)
  |skip
   refine kP H (SR fun _ bH=>Rm O ?_);clear H;intro a H;refine aT iN fq 0 H wn O O V V O ?_;clear H;intro a H;refine dX fq (cs:=[_,_,_]) H wn O O (fun j v hj=>H.hp.aR (jW bK (k:=0) V j v hj)) O ?_;clear H;intro a H;refine eU bE aF [_] [_] H wn O O O O O (by intro i q h;match i,h with|0,h=>exact h|n+1,h=>simp at h) O O ?_;clear H;intro mH a w ES H;obtain ⟨Gq,fV,hq,H⟩:=H.lQ (sz:=1) (d:=eZ 1) O (lF _ 1);replace bK:=bK.mono fV;refine s_call kM H wn O (kQ _ _ H.ro l[0] [1] _ hq) O ?_;clear H;rintro v40 _ a w ⟨rfl,rfl⟩ - H;rw [is1 V 1] at H;refine kH H (aB bH O (Cd O ?_ ?_)) <;> clear H bH
   ·intro nW a H
    try have p35:=dT nW
    first
    | (exfalso;omega)
    | (exact absurd nW Y)
    |skip
     refine kP H (SR fun _ bL=>Ra O (aB bL O ?_));clear H bL;intro a H;refine aV ?_;refine (aY H results69 (.cons (aD H O) (.cons (aD H O) .nil)) ?_).1;exact H.rt (by rw [lG,aJ p4,aJ jY,aM p35];rfl)
   intro nW a H
   try have p35:=dF nW
   first
   | (exfalso;omega)
   | (exact absurd nW Y)
   |skip
    refine kP H (SR fun _ bI=>Rm O ?_);clear H;intro a H;refine aT iN fq 0 H wn O O V V O ?_;clear H;intro a H;refine dX fq (cs:=[_,_,_]) H wn O O (fun j v hj=>H.hp.aR (jW bK (k:=0) V j v hj)) O ?_;clear H;intro a H;refine eU bE aF [_] [_] H wn O O O O O (by intro i q h;match i,h with|0,h=>exact h|n+1,h=>simp at h) O O ?_;clear H;intro TM a w XG H;obtain ⟨Gq,fV,hq,H⟩:=H.lQ (sz:=1) (d:=eZ 7) O (lF _ 7);replace bK:=bK.mono fV;refine s_call kM H wn O (kQ _ _ H.ro l[0] [7] _ hq) O ?_;clear H;rintro v46 _ a w ⟨rfl,rfl⟩ - H;rw [is1 V 7] at H;refine kH H (aB bI O (Cd O ?_ ?_)) <;> clear H bI
    ·intro CF a H
     try have p41:=dT CF
     first
     | (exfalso;omega)
     | (exact absurd CF Y)
     |skip
      refine kP H (SR fun _ cB=>Ra O (aB cB O ?_));clear H cB;intro a H;refine aV ?_;refine (aY H results69 (.cons (aD H O) (.cons (aD H O) .nil)) ?_).1;exact H.rt (by rw [lG,aJ p4,aJ jY,aJ p35,aM p41];rfl)
    intro CF a H
    try have p41:=dF CF
    first
    | (exfalso;omega)
    | (exact absurd CF Y)
    |skip
     refine kP H (Kc K2 (SR fun _ dw=>Ra O (aB dw O ?_)));clear H K2 dw;intro a H;refine aV ?_;refine (aY H results69 (.cons (aD H O) (.cons (aD H O) .nil)) ?_).1;exact H.rt (by rw [lG,aJ p4,aJ jY,aJ p35,aJ p41];rfl)
section
section
variable {P:Program} {N:Nat} {D:List Deferred} {w0 w w':World} {F:Nat->Prop} {G0 G G':GH} {L L' Li Lo:OL} {T:List (Nat × av)} {a a':Act} {Q:Exit->Act->World->Prop}
variable {r:Option Nat} {ops:Array Oper} {rest:List Oper}
def xu (P:Program) (Gi:GH) (B:OL) (gv:av) (xs:List AP):Prop :=
 ∀ (J:Nat->GH->OL->Prop) (Jx:GH->OL->Prop) (fv:av) (G:GH) (L:OL) (w:World),fv.cells=#[fv]->(∀ b o,Gi b=some o->G b=some o)->D8 J->Ed Jx->J 0 G L->jS G (B++L) w->Gl P fv G xs J Jx ->
  uR P gv [fv] w (jT w G (B++L) fun _ G' L'=>J xs.length G' L'∨Jx G' L')
theorem xu.mono {Gi BN:GH} {B:OL} {gv:av} {xs:List AP} (h:xu P Gi B gv xs) (hm:∀ b o,Gi b=some o->BN b=some o):xu P BN B gv xs :=
 fun J Jx fv G L w h0 h1=>h J Jx fv G L w h0 fun b o hb=>h1 b o (hm b o hb)
theorem Um {B:OL} {uq:Operand} {ps:List Nat} {assign body:Code} {gf:FuncId} {caps:List av} {xs:List AP} {Gi:GH}
  (H:St N D w0 F G0 G (B++L) T a w) (hg:ev T uq=some (.func (.func gf) #[] caps.toArray)) (en:∀ args w,(callFunc gf args).run P w=.ok (.enter gf args) w) (hit:xu P Gi B (.func (.func gf) #[] caps.toArray) xs) (hGi:∀ b o,Gi b=some o->G b=some o)
  (hps:ps.all (Nat.blt · N)=true) (hlen:∀ k args g,tC xs k args g->args.length=ps.length)
  (J:Nat->GH->OL->Prop) (Jx:Code->GH->OL->Prop) (uy:D8 J) (hJx:∀ c,Ed (Jx c)) (h0:J 0 G L) (Ju:Gx P N ps assign body T G J Jx xs)
  (hdone:∀ Dk G1 L1 a1 w1,(∀ b o,G b=some o->G1 b=some o)->J xs.length G1 L1->St N ({ target:=.collected Dk,args:=#[] } :: D) w0 F G0 G1 ((Dk,.deferred (some [])) :: L1) T a1 w1->Q .normal a1 w1)
  (hstop:∀ Dk c G1 L1 a1 w1,(∀ b o,G b=some o->G1 b=some o)->Jx c G1 L1->St N ({ target:=.collected Dk,args:=#[] } :: D) w0 F G0 G1 ((Dk,.deferred (some [])) :: L1) T a1 w1->WP none P c Q a1 w1) :
  WP none P (.rangeFunc uq ps.toArray assign body) Q a w:=by
 refine wpIn_rangeFunc ?_
 intro fn _
 have hev:=H.ev hg
 let q:Rec:=⟨fn,a.tmps,ps.toArray,assign,body,w.heap.size⟩
 obtain ⟨W1,hW1⟩:∃ W1,W1=(w.alloc (.deferred (some []))).alloc (q.at .ready none):=⟨_,O⟩
 have H1:Hp w0 F G0 G (B++((w.heap.size+1,q.at .ready none) :: (w.heap.size,.deferred (some [])) :: L)) W1:=by
  have:=(H.hp.alloc (.deferred (some []))).alloc (q.at .ready none)
  rw [World.size_alloc] at this
  rw [hW1]
  refine this.perm ?_
  have e:=List.perm_append_comm (l₁:=[(w.heap.size+1,q.at .ready none),(w.heap.size,Obj.deferred (some []))]) (l₂:=B)
  have e2:=List.Perm.append_right L e
  rw [nR,nR] at e2
  exact e2
 refine ⟨w.heap.size+1,[{ target:=.collected w.heap.size,args:=#[] }],W1,{ target:=.fn (.func gf) caps.toArray,args:=#[.func (.yield (w.heap.size+1)) #[] #[]] },W1,gf,
  #[.func (.yield (w.heap.size+1)) #[] #[]]++caps.toArray,W1,by rw [hW1];exact run_enterLoop_outer fn a.tmps ps.toArray assign body,?_,fun _ _=>trivial,?_,DZ none,?_⟩
 ·simp only [resolve,rangeCall,hev]
  simp [Deferred.ofValue,Act.eval]
 ·simp [invoke,en]
 ·have hcv:=hit (fun k=>Jr (w.heap.size+1) q [(w.heap.size,.deferred (some []))] (J k)) (D9 (w.heap.size+1) q [(w.heap.size,.deferred (some []))] Jx) (.func (.yield (w.heap.size+1)) #[] #[]) G
   ((w.heap.size+1,q.at .ready none) :: (w.heap.size,.deferred (some [])) :: L) W1 rfl hGi (fun k G G' L hm ⟨Lu,e,h⟩=>⟨Lu,e,uy k G G' Lu hm h⟩) (fun G G' L hm ⟨c,Lu,e,h⟩=>⟨c,Lu,e,hJx c G G' Lu hm h⟩) ⟨L,O,h0⟩ (Hp.owns (Li:=[]) H1) (MK H.jv H.get hps hlen Ju)
  replace hcv:=hcv.go
  have e:(do let d <- Deferred.ofValue (.func (.func gf) #[] caps.toArray) [Value.func (.yield (w.heap.size+1)) #[] #[]].toArray;invoke d.target d.args:Sem Next).run P W1=.ok (.enter gf (#[.func (.yield (w.heap.size+1)) #[] #[]]++caps.toArray)) W1:=by
   simp [Deferred.ofValue,invoke,en]
  rw [e] at hcv
  refine (GZ hcv).mono ?_
  rintro e w2 ⟨v,G2,L2,rfl,hch,hJ⟩
  have H2:=Hp.change (Li:=[]) H1 hch
  rcases hJ with ⟨Lu,rfl,hJ⟩|⟨c,Lu,rfl,hJ⟩
  ·have hl:=H2.own _ (qH)
   have H3:=(H2.upd (i:=0) O (yK (q.at .exhausted none) hl)).drop (List.sublist_cons_self _ _)
   exact ⟨none,_,run_endLoop hl (by simp),hdone _ G2 Lu _ _ hch.gm hJ ⟨H.jv,H.get,by simp [H.mJ],H3⟩⟩
  ·have hl:=H2.own _ (qH)
   have H3:=(H2.upd (i:=0) O (yK (q.at .exhausted (some c)) hl)).drop (List.sublist_cons_self _ _)
   exact ⟨some c,_,run_endLoop hl (by simp),hstop _ c G2 Lu _ _ hch.gm hJ ⟨H.jv,H.get,by simp [H.mJ],H3⟩⟩
theorem Ul {B:OL} {ι κ:Type} {Lc:OL} {uq:Operand} {ps:List Nat} {assign body:Code} {gf:FuncId} {caps:List av} {xs:List AP} {Gi:GH}
  (Lv:Nat->ι->OL) (Lt:Nat->ι->OL) (inv:Nat->ι->GH->Prop) (cx:κ->Code) (Lx yM:κ->OL) (uE:κ->GH->Prop) (i0:ι)
  (H:St N D w0 F G0 G (B++(Lc++Lv 0 i0++Lt 0 i0)) T a w) (hg:ev T uq=some (.func (.func gf) #[] caps.toArray)) (en:∀ args w,(callFunc gf args).run P w=.ok (.enter gf args) w) (hit:xu P Gi B (.func (.func gf) #[] caps.toArray) xs) (hGi:∀ b o,Gi b=some o->G b=some o)
  (hps:ps.all (Nat.blt · N)=true) (hlen:∀ k args g,tC xs k args g->args.length=ps.length) (hinv:∀ k i (G G':GH),(∀ b o,G b=some o->G' b=some o)->inv k i G->inv k i G') (I6:∀ x (G G':GH),(∀ b o,G b=some o->G' b=some o)->uE x G->uE x G') (h0:inv 0 i0 G)
  (round:∀ (l:Nat) (zH wm:Obj) (bk:OL) (k:Nat) (args:List av) (i:ι) (G1:GH) (w1:World) (F1:Nat->Prop) (B1:Code->Exit->Act->World->Prop) (a1:Act),tC xs k args G1->(∀ b o,G b=some o->G1 b=some o)->inv k i G1 ->
   (∀ T' G2 L2 a2 w2 c,St N [] w1 F1 G1 G2 ((l,zH) :: L2) T' a2 w2->(∀ w3,St N [] w1 F1 G1 G2 ((l,wm) :: L2) T' a2 w3->WP (some l) P c (B1 c) a2 w3)->Exit.then (fun a2 w2=>∃ w3,(Instr.beginRound l).run P w2=.ok () w3∧c.wpIn (FW (some l)) 0 P (B1 c) a2 w3) (fun _ _ _=>False) .normal a2 w2) ->
   (∀ i' T' G2 a2 w2 c,St N [] w1 F1 G1 G2 ((l,wm) :: (Lc++Lv (k+1) i'++(bk++Lt (k+1) i'))) T' a2 w2->inv (k+1) i' G2->B1 c .normal a2 w2) ->
   (∀ x T' G2 a2 w2 c,St N [] w1 F1 G1 G2 ((l,wm) :: (Lc++Lx x++(bk++yM x))) T' a2 w2->uE x G2->(cx x=.ret->B1 c .ret a2 w2)∧∀ n,cx x=.exit n->B1 c (.exit n) a2 w2) ->
   St N [] w1 F1 G1 G1 ((l,zH) :: (Lc++Lv k i++(bk++Lt k i))) (uY ps args T) a1 w1 ->
   WP (some l) P assign (Exit.then (fun a2 w2=>∃ w3,(Instr.beginRound l).run P w2=.ok () w3∧body.wpIn (FW (some l)) 0 P (B1 body) a2 w3) (fun _ _ _=>False)) a1 w1)
  (hdone:∀ Dk i G1 a1 w1,(∀ b o,G b=some o->G1 b=some o)->inv xs.length i G1->St N ({ target:=.collected Dk,args:=#[] } :: D) w0 F G0 G1 ((Dk,.deferred (some [])) :: (Lc++Lv xs.length i++Lt xs.length i)) T a1 w1->Q .normal a1 w1)
  (hstop:∀ Dk x G1 a1 w1,(∀ b o,G b=some o->G1 b=some o)->uE x G1->St N ({ target:=.collected Dk,args:=#[] } :: D) w0 F G0 G1 ((Dk,.deferred (some [])) :: (Lc++Lx x++yM x)) T a1 w1->WP none P (cx x) Q a1 w1) :
  WP none P (.rangeFunc uq ps.toArray assign body) Q a w:=by
 refine Um (J:=fun k g L=>∃ i,L=Lc++Lv k i++Lt k i∧inv k i g) (Jx:=fun c g L=>∃ x,c=cx x∧L=Lc++Lx x++yM x∧uE x g) H hg en hit hGi hps hlen (fun k G G' L hm ⟨i,e,h⟩=>⟨i,e,hinv k i G G' hm h⟩) (fun c G G' L hm ⟨x,e1,e2,h⟩=>⟨x,e1,e2,I6 x G G' hm h⟩) ⟨i0,O,h0⟩ ?_ ?_ ?_
 ·rintro l q bk k args G1 L1 w1 a1 hk hm ⟨i,rfl,hi⟩ H1
  have pm:∀ A B:OL,(bk++(A++B)).Perm (A++(bk++B)):=fun A B=>by
   rw [<- nR,<- nR]
   exact List.Perm.append_right B List.perm_append_comm
  refine round l (q.at .ready none) (q.at .busy none) bk k args i G1 w1 _ (fun _=>roundPost P l _) a1 hk hm hi ?_ ?_ ?_ (H1.perm (List.Perm.cons _ (pm _ _)))
  ·intro T' G2 L2 a2 w2 c H2 h
   exact MH H2 h
  ·intro i' T' G2 a2 w2 c H2 h2
   exact Bj none (H2.perm (List.Perm.cons _ (pm _ _).symm)) ⟨_,O,i',O,h2⟩
  ·intro x T' G2 a2 w2 c H2 h2
   have H3:=H2.perm (List.Perm.cons _ (pm _ _).symm)
   refine ⟨fun e=>?_,fun n e=>?_⟩
   ·exact Bj (some .ret) H3 ⟨_,_,O,x,e.symm,O,h2⟩
   ·exact Bj (some (.exit n)) H3 ⟨_,_,O,x,e.symm,O,h2⟩
 ·rintro Dk G1 L1 a1 w1 hm ⟨i,rfl,hi⟩ H1
  exact hdone Dk i G1 a1 w1 hm hi H1
 ·rintro Dk c G1 L1 a1 w1 hm ⟨x,rfl,rfl,hx⟩ H1
  exact hstop Dk x G1 a1 w1 hm hx H1
end
end
end Go.Proofs.YtomebajfpcjoeaaDoor
