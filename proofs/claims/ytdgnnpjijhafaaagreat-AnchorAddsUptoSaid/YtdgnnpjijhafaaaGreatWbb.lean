/-
  What the claim stands on, part 2: Hv Ut Cp Prk Run Ehd Rg Pos Eqi Pq Rve Doc Dq Idx Bld Prp Plc Plr Prq Prc Fst Nam Pn Lsc Dm.
-/
import Derived.Test.YtdgnnpjijhafaaaGreatWba
import Derived.Lib.OthersKept
import Derived.Laws.IdiomStrings
import Derived.Laws.Cover4
import Derived.Laws.Slices
import Derived.Laws.Strings2
import Derived.Test.YtdgnnpjijhafaaaGreatRows
namespace Go.Proofs.YtdgnnpjijhafaaaGreat
set_option linter.all false
open Go.Proofs.Tryz
open Go.RowKit
def nO(p:Nat->Bool):Nat->Nat->Nat->Nat
 |0,i,_=>i
 |f+1,i,j=>if i<j then(if p ((i+j)/2)then nO p f i ((i+j)/2)else nO p f ((i+j)/2+1) j)else i
theorem anz{p:Nat->Bool}{f i j:Nat}(hf:j-i<=f)(h:i<j):nO p f i j=if p ((i+j)/2)then nO p (f-1) i ((i+j)/2)else nO p (f-1) ((i+j)/2+1) j:=by
 match f,hf with
 |0,hf=>omega
 |f+1,_=>rw[nO,ay h];rfl
theorem anw{p:Nat->Bool}{f i j:Nat}(h:¬i<j):nO p f i j=i:=by
 match f with
 |0=>rfl
 |f+1=>rw[nO,au h]
theorem acw{p:Nat->Bool}:∀(f i j:Nat),i<=j->nO p f i j<=j
 |0,i,j,h=>h
 |f+1,i,j,h=>by
  rw[nO]
  split
  ·split
   ·exact Nat.le_trans (acw f i _ O) O
   ·exact acw f _ j O
  ·exact h
theorem anA{z:Int}(h1:0<=z)(h2:z<18446744073709551616):IntKind.u64.wrap z=z:=by
 simp only[IntKind.wrap,IntKind.bits,IntKind.signed,Bool.false_and,zJ,if_false]
 omega
theorem anx(n:Nat):((n:Nat):Int).fdiv (2^1)=((n/2:Nat):Int):=by
 rw[Int.fdiv_eq_ediv_of_nonneg _ Z];omega
def Fq(a b:Int):Int:=if a<b then -1 else if b<a then 1 else 0
theorem aje{a b:Int}:Fq a b<0↔a<b:=by
 unfold Fq
 split
 ·simp[*]
 ·split <;>simp_all
theorem ajd{a b:Int}:Fq a b=0↔a=b:=by
 unfold Fq
 split
 ·omega
 ·split <;>omega
def qZ(ks:List Int)(t:Int):Nat:=nO (fun h=>decide (¬ks.getD h 0<t)) ks.length 0 ks.length
def yX(ks:List Int)(t:Int):Bool:=decide (ks[qZ ks t]?=some t)
theorem aBA{ks:List Int}{t:Int}(h:yX ks t=true):qZ ks t<ks.length:=by
 have:=mW h
 exact(jJ.1 this).1
theorem amf{ks:List Int}{t:Int}{n:Nat}(e:qZ ks t=n)(h:n<ks.length):yX ks t=decide (Fq ks[n] t=0):=by
 unfold yX
 rw[e,gF h]
 simp[ajd]
theorem amg{ks:List Int}{t:Int}{n:Nat}(e:qZ ks t=n)(h:¬n<ks.length):yX ks t=false:=by
 unfold yX
 rw[e,List.getElem?_eq_none O]
 simp
theorem getD_map{α:Type}{f:α->Int}{l:List α}{n:Nat}(h:n<l.length):(l.map f).getD n 0=f l[n]:=by
 simp[List.getD,h]
section
structure aeL(P:Program)(s n off:Nat):Prop where
 h:(match P.underlying s with|some (.struct fs)=>(fs[n]?).bind fun f=>((P.underlying f.type).map (fun|.struct _=>true|.array _ _=>true|_=>false)).map fun g=>(f.offset,g)|_=>none)=some (off,false)
theorem aeL.parts{P:Program}{s n off:Nat}(h:aeL P s n off):∃fs fl u,P.underlying s=some (.struct fs)∧fs[n]?=some fl∧P.underlying fl.type=some u∧(match u with|.struct _=>true|.array _ _=>true|_=>false)=false∧fl.offset=off:=by
 obtain⟨h⟩:=h
 split at h
 ·rename_i fs hs
  obtain⟨fl,hf,h2⟩:=Option.bind_eq_some_iff.1 h
  obtain⟨b,hb,h3⟩:=nK.1 h2
  obtain⟨u,hu,h4⟩:=nK.1 hb
  simp only[jd]at h3
  refine⟨fs,fl,u,hs,hf,hu,?_,h3.1⟩
  rw[<-h3.2,<-h4]
  cases u<;>rfl
 ·cases h
def Ez(s:ByteArray):Nat->Nat->List (Nat×Nat)
 |0,_=>[]
 |f+1,p=>if p<s.size then(p,(Utf8.decode s p).1)::Ez s f (p+(Utf8.decode s p).2)else[]
def KW(s:ByteArray):List (Nat×Nat):=Ez s s.size 0
section
variable{N:Nat}{D:List Deferred}{w0:World}{F:Nat->Prop}{G0 G:GH}{L Li Lo:OL}{T:List (Nat×aj)}
variable{r:Option Nat}{P:Program}{ops:Array Oper}{Q:Exit->Act->World->Prop}{rest:List Oper}{a:Act}{w:World}
variable{d:Nat}{ty:TypeId}{pos:String}{aT:Array Edge}{g:Option (Nat×Bool)}
theorem aHf{t:TypeId}{x y z:Operand}{s:ByteArray}{ky kz:IntKind}{p q:Int}(lo hi:Nat)(ht:P.underlying t=some .string)(H:St N D w0 F G0 G L T a w)(hw:Region.wanted ⟨some d,.slice t x (some y) (some z) none,ty,pos,aT,g⟩ (yielded ops a.tmps)=true)(hx:ev T x=some (.string s))(hy:ev T y=some (.int ky p))(hz:ev T z=some (.int kz q))(hp:p=(lo:Int))(hq:q=(hi:Int))(h1:lo<=hi)(h2:hi<=s.size)(hd:Nat.blt d N=true)
  (k:∀a',St N D w0 F G0 G L ((d,.string<|s.extract lo hi)::T) a' w->WL r P ops Q rest a' w):WL r P ops Q (⟨some d,.slice t x (some y) (some z) none,ty,pos,aT,g⟩::rest) a w:=by
 subst hp;subst hq
 have hr:=run_slice_string (P:=P) w t s ky kz (lo:Int) (hi:Int) ht O O O
 rw[Int.toNat_natCast,Int.toNat_natCast]at hr
 refine fH (v:=.string<|s.extract lo hi) (w':=w) hw M ?_<|k _<|H.put hd _ H.hp
 simp only[execOp,H.ev hx,D5,Option.map_none,H.ev hy,H.ev hz,dP,run_sliceAt_string w t _ _ _ _ ht,hr,kY,rO]
theorem aqv{t:TypeId}{x y:Operand}{s:ByteArray}{ky:IntKind}{p:Int}(lo:Nat)(ht:P.underlying t=some .string)(H:St N D w0 F G0 G L T a w)(hw:Region.wanted ⟨some d,.slice t x (some y) none none,ty,pos,aT,g⟩ (yielded ops a.tmps)=true)(hx:ev T x=some (.string s))(hy:ev T y=some (.int ky p))(hp:p=(lo:Int))(h1:lo<=s.size)(hd:Nat.blt d N=true)
  (k:∀a',St N D w0 F G0 G L ((d,.string<|s.extract lo s.size)::T) a' w->WL r P ops Q rest a' w):WL r P ops Q (⟨some d,.slice t x (some y) none none,ty,pos,aT,g⟩::rest) a w:=by
 subst hp
 have hr:=run_slice_string_l (P:=P) w t s ht ky (lo:Int) O O
 rw[Int.toNat_natCast]at hr
 refine fH (v:=.string<|s.extract lo s.size) (w':=w) hw M ?_<|k _<|H.put hd _ H.hp
 simp only[execOp,H.ev hx,D5,Option.map_none,H.ev hy,dP,run_sliceAt_string w t _ _ _ _ ht,hr,kY,rO]
theorem aHe{t e:TypeId}{sz bytes:Nat}{zero:List aj}{agg:Bool}(hs:P.underlying t=some (.slice e))(ht:Ty P e sz bytes zero agg){x y:Operand}{A:Option Addr}{n c:Nat}(lo:Nat){p:Int}(H:St N D w0 F G0 G L T a w)
  (hw:Region.wanted ⟨some d,.slice t x (some y) none none,ty,pos,aT,g⟩ (yielded ops a.tmps)=true)(hx:ev T x=some (.slice A n c))(hy:ev T y=some (.int .i64 p))(hp:p=(lo:Int))(h1:lo<=n)(hd:Nat.blt d N=true)
  (k:∀a',St N D w0 F G0 G L ((d,.slice (if c=lo then A else A.map (·.add<|lo*sz)) (n-lo)<|c-lo)::T) a' w->WL r P ops Q rest a' w):WL r P ops Q (⟨some d,.slice t x (some y) none none,ty,pos,aT,g⟩::rest) a w:=by
 subst hp
 refine fH (v:=.slice (if c=lo then A else A.map (·.add<|lo*sz)) (n-lo)<|c-lo) (w':=w) hw M ?_<|k _<|H.put hd _ H.hp
 simp[execOp,H.ev hx,H.ev hy,Instr.sliceAt,Instr.slice,Instr.sliceBounds,Instr.sliceBound,dP,lV hs,ht.EB,asIntOf,h1]
end
end
theorem oU:prog.underlying 3=some (.int .i64):=by kernel_rfl
theorem Sl:prog.underlying 5=some (.int .u8):=by kernel_rfl
theorem gZ:prog.underlying 9=some .string:=by kernel_rfl
theorem ayM:aW 251:=aX func251 M
theorem ayn:aW 220:=aX func220 M
theorem axB:aW 165:=aX func165 M
theorem JJ:aW 89:=aX func89 M
def jo(b:Int):Int×Int×Int :=
  (if b=224 then 160 else if b=240 then 144 else 128,if b=237 then 159 else if b=244 then 143 else 191,
   if b < 128 then 1 else if b < 194∨244 < b then 0 else if b < 224 then 2 else if b < 240 then 3 else 4)
theorem Xd(b:Int):0<=(jo b).2.2∧(jo b).2.2<=4:=by
 simp only[jo];split
 ·omega
 split
 ·omega
 split
 ·omega
 split <;>omega
theorem Fa {p:Prop} (h:p:=by
 first|(exfalso;omega)|exact H.rt ⟨by simp only [jo];repeat (first|rw [iw]|rw [bQ]),M⟩):p:=h
theorem TI {p:Prop} (h:p:=by
 refine kP H (SC (bZ K3 M (SQ fun _ K1=>SR fun _ K2=>Rm M (Kz K2 (SB (SR fun _ K4=>Rc M (ak K4 M (Cd M ?_ ?_))))))))<;>clear H K3 K2 K4
 ·intro h22 a H
  try have pV:=dT h22
  refine kP H (SC (bZ K1 M (SR fun _ K2=>Rm M (Rm M (Rm M (Ra M (Ra M (ak K2 M ?_))))))));clear H K1 K2;intro a H;refine eH ?_;refine(gV H results251 (.cons (cK H M) (.cons (cK H M) (.cons (cK H M) .nil))) ?_).1
  exact Fa
 intro h22 a H
 try have pV:=dF h22
 refine kP H (SR fun _ K2=>Rc M (ak K2 M (Cd M ?_ ?_)))<;>clear H K2
 ·intro eY a H
  try have pW:=dT eY
  refine kP H (SC (bZ K1 M (SR fun _ K2=>Rm M (Rm M (Rm M (Ra M (Ra M (ak K2 M ?_))))))));clear H K1 K2;intro a H;refine eH ?_;refine(gV H results251 (.cons (cK H M) (.cons (cK H M) (.cons (cK H M) .nil))) ?_).1
  exact Fa
 intro eY a H
 try have pW:=dF eY
 refine kP H (SR fun _ K2=>Rc M (ak K2 M (Cd M ?_ ?_)))<;>clear H K2
 ·intro jZ a H
  try have p26:=dT jZ
  refine kP H (SC (bZ K1 M (SR fun _ K2=>Rm M (Rm M (Rm M (Ra M (Ra M (ak K2 M ?_))))))));clear H K1 K2;intro a H;refine eH ?_;refine(gV H results251 (.cons (cK H M) (.cons (cK H M) (.cons (cK H M) .nil))) ?_).1
  exact Fa
 intro jZ a H
 try have p26:=dF jZ
 refine kP H (SR fun _ K2=>Rc M (ak K2 M (Cd M ?_ ?_)))<;>clear H K2
 ·intro eZ a H
  try have p28:=dT eZ
  refine kP H (SC (bZ K1 M (SR fun _ K2=>Rm M (Rm M (Rm M (Ra M (Ra M (ak K2 M ?_))))))));clear H K1 K2;intro a H;refine eH ?_;refine(gV H results251 (.cons (cK H M) (.cons (cK H M) (.cons (cK H M) .nil))) ?_).1
  exact Fa
 intro eZ a H
 try have p28:=dF eZ
 refine kP H (Kc K1 (SR fun _ K2=>Rm M (Rm M (Rm M (Ra M (Ra M (ak K2 M ?_)))))));clear H K1 K2;intro a H;refine eH ?_;refine(gV H results251 (.cons (cK H M) (.cons (cK H M) (.cons (cK H M) .nil))) ?_).1
 exact Fa):p:=h
theorem TJ {p:Prop} (h:p:=by
 refine kP H (SC (bZ K1 M (SR fun _ K2=>Rm M (Rm M (Rm M (Ra M (Ra M (ak K2 M ?_))))))));clear H K1 K2;intro a H;refine eH ?_;refine(gV H results251 (.cons (cK H M) (.cons (cK H M) (.cons (cK H M) .nil))) ?_).1
 exact Fa):p:=h
theorem TW {p:Prop} (h:p:=by
 refine kP H (SC (bZ K2 M (SR fun _ K1=>Rm M (Rm M (Rm M (Ra M (Ra M (ak K1 M ?_))))))));clear H K2 K1;intro a H;refine eH ?_;refine(gV H results251 (.cons (cK H M) (.cons (cK H M) (.cons (cK H M) .nil))) ?_).1
 exact Fa):p:=h
theorem aIc(G:GH)(w0:World)(hG:Hold G w0)(b:Int) :
  Calls prog 251 #[.int .u8 b] w0 (bD w0 G fun v G'=>v=.tuple #[.int .u8 (jo b).1,.int .u8 (jo b).2.1,.int .i64 (jo b).2.2]∧G=G'):=by
 refine eN [(0,_)] func251 M ntmps251 M M hG ?_;intro a H;refine kP H (SR fun _ K1=>Ra M<|Ra M<|ak K1 M<|SR fun _ K2=>Ra M<|ak K2 M<|SQ fun _ K3=>SB<|SR fun _ K4=>Rm M<|Rc M<|ak K4 M<|Cd M ?_ ?_)<;>clear H K1 K2 K4
 ·intro h5 a H
  try have p5:=dT h5
  exact TI
 intro h5 a H
 try have p5:=dF h5
 refine kP H (SR fun _ K1=>Rm M<|Rc M<|Rm M<|Sp 11 M ?_ ?_)<;>clear H
 ·intro h11 a H
  try have pR:=dT h11
  refine kH H (aU h11 M<|Pt h11 M<|ak K1 M<|Ct M M<|SC<|bZ K3 M<|SQ fun _ K2=>SR fun _ K4=>Rm M<|Kz K4<|SB<|SR fun _ K5=>Rc M<|ak K5 M<|Cd M ?_ ?_)<;>clear H K1 K3 K4 K5
  ·intro h22 a H
   try have pV:=dT h22
   exact TW
  intro h22 a H
  try have pV:=dF h22
  refine kP H (SR fun _ K1=>Rc M<|ak K1 M<|Cd M ?_ ?_)<;>clear H K1
  ·intro eY a H
   try have pW:=dT eY
   exact TW
  intro eY a H
  try have pW:=dF eY
  refine kP H (SR fun _ K1=>Rc M<|ak K1 M<|Cd M ?_ ?_)<;>clear H K1
  ·intro jZ a H
   try have p26:=dT jZ
   exact TW
  intro jZ a H
  try have p26:=dF jZ
  refine kP H (SR fun _ K1=>Rc M<|ak K1 M<|Cd M ?_ ?_)<;>clear H K1
  ·intro eZ a H
   try have p28:=dT eZ
   exact TW
  intro eZ a H
  try have p28:=dF eZ
  refine kP H<|Kc K2<|SR fun _ K1=>Rm M<|Rm M<|Rm M<|Ra M<|Ra M<|ak K1 M ?_;clear H K2 K1;intro a H;refine eH ?_;refine(gV H results251 (.cons (cK H M) (.cons (cK H M) (.cons (cK H M) .nil))) ?_).1
  exact Fa
 intro h11 a H
 try have pR:=dF h11
 refine kH H (YM h11 M<|YC h11 M<|Pf h11 M<|ak K1 M<|Cd M ?_ ?_)<;>clear H K1
 ·intro h8 a H
  try have p8:=dT h8
  exact TI
 intro h8 a H
 try have p8:=dF h8
 refine kP H (SR fun _ K1=>Rm M<|Rc M<|ak K1 M<|Cd M ?_ ?_)<;>clear H K1
 ·intro pF a H
  try have vP:=dT pF
  exact TI
 intro pF a H
 try have vP:=dF pF
 refine kP H (SR fun _ K1=>Rm M<|Rc M<|ak K1 M<|Cd M ?_ ?_)<;>clear H K1
 ·intro h18 a H
  try have pU:=dT h18
  exact TI
 intro h18 a H
 try have pU:=dF h18
 refine kP H (SC<|bZ K3 M<|SQ fun _ K1=>SR fun _ K2=>Rm M<|Kz K2<|SB<|SR fun _ K4=>Rc M<|ak K4 M<|Cd M ?_ ?_)<;>clear H K3 K2 K4
 ·intro h22 a H
  try have pV:=dT h22
  exact TJ
 intro h22 a H
 try have pV:=dF h22
 refine kP H (SR fun _ K2=>Rc M<|ak K2 M<|Cd M ?_ ?_)<;>clear H K2
 ·intro eY a H
  try have pW:=dT eY
  exact TJ
 intro eY a H
 try have pW:=dF eY
 refine kP H (SR fun _ K2=>Rc M<|ak K2 M<|Cd M ?_ ?_)<;>clear H K2
 ·intro jZ a H
  try have p26:=dT jZ
  exact TJ
 intro jZ a H
 try have p26:=dF jZ
 refine kP H (SR fun _ K2=>Rc M<|ak K2 M<|Cd M ?_ ?_)<;>clear H K2
 ·intro eZ a H
  try have p28:=dT eZ
  exact TJ
 intro eZ a H
 try have p28:=dF eZ
 refine kP H<|Kc K1<|SR fun _ K2=>Rm M<|Rm M<|Rm M<|Ra M<|Ra M<|ak K2 M ?_;clear H K1 K2;intro a H;refine eH ?_;refine(gV H results251 (.cons (cK H M) (.cons (cK H M) (.cons (cK H M) .nil))) ?_).1
 exact Fa
def eO(s:ByteArray)(i:Nat):Int:=if h:i<s.size then(s[i].toNat:Int)else 0
theorem lN{s:ByteArray}{i:Nat}(h:i<s.size):eO s i=(s[i].toNat:Int):=by simp[eO,h]
def mG(s:ByteArray)(at_ n:Nat):(fuel k:Nat)->(low high p:Int)->Int×Nat×Bool
 |0,k,_,_,p=>(p,k,true)
 |f+1,k,low,high,p=>
  if n<=k then(p,k,true)
  else if s.size<=at_+k∨eO s (at_+k)<low∨high<eO s (at_+k)then(0,k,false)
  else mG s at_ n f (k+1) 128 191 (rP .or .i64 (IntKind.i64.wrap (p*2^6)) (rP .and .i64 (eO s (at_+k)) 63))
def iO(s:ByteArray)(at_:Nat):Int×Nat×Bool :=
 let b:=eO s at_
 let t:=jo b
 if t.2.2=0 then(0,0,false)else if t.2.2=1 then(b,1,true)
 else mG s at_ t.2.2.toNat 4 1 t.1 t.2.1 (rP .and .i64 b ((127:Int).fdiv (2^t.2.2.toNat)))
theorem aej(n:UInt8):IntKind.i64.wrap (n.toNat:Int)=(n.toNat:Int):=KC O (by have:=n.toNat_lt;omega)
theorem afC {p:Prop} (h:p:=by
 exact H.rt ⟨by rw [hfin];first|rw [iw]|rw [bQ],M⟩):p:=h
theorem Zv {p:Prop} (h:p:=by
 intro a H;refine eH ?_
 have hfin:iO s i=(if n<=k then(p,k,true)else(0,k,false)):=by
  rw[hdec];have e:5-k=(4-k)+1:=by omega
  rw[e,mG]
  by_cases hk2:n<=k
  ·rw[ay hk2,ay hk2]
  rw[au hk2,au hk2,ay (by first|omega|(rw[lN O];omega))]
 refine (gV H results220 (.cons (cK H M) (.cons (cK H M) (.cons (cK H M) .nil))) ?_).1;exact afC):p:=h
set_option maxHeartbeats 1000000 in
theorem awF(G:GH)(w0:World)(hG:Hold G w0)(s:ByteArray)(i:Nat)(hi:i<s.size)(hs:s.size<4611686018427387904) :
  Calls prog 220 #[.string s,.int .i64 i] w0 (bD w0 G fun v G'=>v=.tuple #[.int .i64 (iO s i).1,.int .i64 (iO s i).2.1,.bool (iO s i).2.2]∧G=G'):=by
 have hb:=lN hi;obtain⟨n,hn⟩:∃n:Nat,(jo<|eO s i).2.2=(n:Int):=⟨(jo<|eO s i).2.2.toNat,by have:=Xd<|eO s i;omega⟩
 have hn4:n<=4:=by have:=Xd<|eO s i;omega
 refine eN [(0,_),(1,_)] func220 M ntmps220 M M hG (SR fun _ K1=>Ra M<|Ra M<|ak K1 M<|SR fun _ K2=>Rm M<|Rm M fun a H=>qO _ gZ H wn M M M (by first|assumption|omega) rfl<|Ra M ?_);clear H;intro a H;rw[<-hb]at H;refine K2 _ _<|kP H<|SR fun _ K1=>Rm M fun a H=>s_call ayM H wn M (aIc _ _ H.ro _) M ?_;clear H;rintro v16 _ a w ⟨rfl,rfl⟩-H;refine kH H<|Rm M ?_;clear H;intro a H;(iterate 3 refine iH H wn M M M ?_;clear H;intro a H);refine kH H (Ra M<|Ra M<|ak K1 M<|SQ fun _ K2=>SR fun _ K3=>Rm M<|Kz K3<|SB<|SR fun _ K4=>Rc M<|ak K4 M<|Cd M ?_ ?_)<;>clear H K1 K3 K4
 ·intro h21 a H
  try have sG:=dT h21
  refine kP H<|SR fun _ K1=>Ra M<|Ra M<|ak K1 M fun a H=>eH ?_;skip;refine(gV H results220 (.cons (cK H M) (.cons (cK H M) (.cons (cK H M) .nil))) ?_).1;exact H.rt ⟨by simp[iO,sG],M⟩
 intro h21 a H
 try have sG:=dF h21
 refine kP H (SR fun _ K1=>Rc M<|ak K1 M<|Cd M ?_ ?_)<;>clear H K1
 ·intro h23 a H
  try have rH:=dT h23
  refine kP H (SR fun _ K1=>Rm M fun a H=>IK (eO s i) oU Sl H wn M (by rw[hb];exact aej _) M<|Ra M<|Ra M<|ak K1 M fun a H=>eH ?_);skip;refine(gV H results220 (.cons (cK H M) (.cons (cK H M) (.cons (cK H M) .nil))) ?_).1;exact H.rt ⟨by simp[iO,sG,rH],M⟩
 intro h23 a H
 try have rH:=dF h23
 refine kP H (Kc K2<|SR fun _ K1=>Rm M fun a H=>IK (eO s i) oU Sl H wn M (by rw[hb];exact aej _) M<|Rm M fun a H=>adR n H wn M M (by rw[hn]) (by show n<=64;omega) rfl fun a H=>R5 M H wn M M M<|ak K1 M<|SQ fun _ K2=>SR fun _ K3=>ak K3 M<|SB ?_);clear H K1 K3;intro a H;skip;refine dY (ι:=Nat×Int×Int×Int) (Tc:=[(0,_),(1,_),(10,_)]) (Lc:=[]) (fun gh=>[(4,.int .i64 gh.2.2.2),(5,.int .i64 (gh.1:Int)),(8,.int .u8 gh.2.1),(9,.int .u8 gh.2.2.1)]) (fun gh=>[]) (fun gh=>G) (fun gh=>gh.1<=4∧iO s i=mG s i n (5-gh.1) gh.1 gh.2.1 gh.2.2.1 gh.2.2.2) (fun gh=>5-gh.1) ((1,_,_,_)) (by exact H.sub ⟨M,M,M,M,M,M,M,aC⟩) ?_ ?_
 ·refine⟨O,?_⟩;simp only[iO,hn];rw[bQ,bQ];rfl
 clear H;rintro⟨k,low,high,p⟩ a w hI H;dsimp only at hI H;obtain⟨hk,hdec⟩:=hI;dsimp only[lca,bq]at H;refine kP H (SQ fun _ K1=>SR fun _ K3=>Rm M<|Rm M<|Rc M<|Kz K3<|Cd M ?_ ?_)<;>clear H K3
 ·intro iB a H
  try have p34:=dT iB
  refine kP H (Kc K1<|SQ fun _ K3=>SB<|SQ fun _ K4=>SR fun _ K5=>Rm M<|Rm M<|Rd M<|Rm M<|Rv gZ M<|Rc M<|Rm M<|Sp 43 M ?_ ?_)<;>clear H K1
  ·intro h43 a H
   try have p43:=dT h43
   exact kH H<|bJ h43 M<|aU h43 M<|aU h43 M<|Pt h43 M<|Rm M<|bJ M M<|aU M M<|aU M M<|Pt M M<|Kz K5<|Ct M M<|SR fun _ K1=>Rm M<|Ra M<|Ra M<|ak K1 M Zv
  intro h43 a H
  try have p43:=dF h43
  refine kH H (YM h43 M<|YM h43 M<|YM h43 M fun a H=>EC _ H (wg H M M h43) M M M O O M fun a H=>qO _ gZ H (wg H M M h43) M M M (by first|assumption|omega) rfl<|YM h43 M<|YC h43 M<|Pf h43 M<|Rm M<|Sp 52 M ?_ ?_)<;>clear H
  ·intro kE a H
   try have p52:=dT kE
   exact kH H<|bJ kE M<|aU kE M<|aU kE M<|Pt kE M<|Kz K5<|Ct M M<|SR fun _ K1=>Rm M<|Ra M<|Ra M<|ak K1 M Zv
  intro kE a H
  try have p52:=dF kE
  refine kH H (YM kE M<|YM kE M<|YM kE M fun a H=>EC _ H (wg H M M kE) M M M O O M fun a H=>qO _ gZ H (wg H M M kE) M M M (by first|assumption|omega) rfl<|YM kE M<|YC kE M<|Pf kE M<|Kz K5<|Cd M ?_ ?_)<;>clear H K5
  ·intro oL a H
   try have p60:=dT oL
   exact kP H<|SR fun _ K1=>Rm M<|Ra M<|Ra M<|ak K1 M Zv
  intro oL a H
  try have p60:=dF oL
  refine kP H (Kc K4<|SR fun _ K1=>Rm M fun a H=>aG9 _ H wn M M M Z M<|Rm M<|Rm M<|Rm M<|Rd M fun a H=>qO _ gZ H wn M M M (by first|assumption|omega) rfl fun a H=>IK (eO s<|i+k) oU Sl H wn M (by rw[lN O];exact aej _) M ?_);clear H;intro a H;(iterate 2 refine R5 M H wn M M M ?_;clear H;intro a H);refine kH H (ak K1 M (SC (Ra M (bZ K3 M (SC (Rm M (Rd M (Ra M fun a H=>aI (dO ((k+1,128,191,rP .or .i64 (IntKind.i64.wrap<|p*2^6)<|rP .and .i64 (eO s<|i+k) 63)) (by exact H.sub ⟨M,M,M,M,M,M,M,aC⟩) ?_)))))))))
  (try dsimp only);refine⟨O,?_⟩
  have e:5-k=(5-(k+1))+1:=by omega
  rw[hdec,e,mG,bQ,lN O,bQ]
 intro iB a H
 try have p34:=dF iB
 refine dS<|K2 _ _<|kP H<|SR fun _ K2=>Rm M<|Rm M<|Ra M<|Ra M<|ak K2 M fun a H=>eH ?_
 have hfin:iO s i=(if n<=k then(p,k,true)else(0,k,false)):=by
  rw[hdec];have e:5-k=(4-k)+1:=by omega
  rw[e,mG]
  by_cases hk2:n<=k
  ·rw[ay hk2,ay hk2]
  rw[au hk2,au hk2,ay (by first|omega|(rw[lN O];omega))]
 refine(gV H results220 (.cons (cK H M) (.cons (cK H M) (.cons (cK H M) .nil))) ?_).1;exact afC
theorem ajx(s:ByteArray)(at_ n:Nat):∀(f k:Nat)(low high p:Int),n<=k+f->k<=n->k<=(mG s at_ n f k low high p).2.1∧(mG s at_ n f k low high p).2.1<=n∧((mG s at_ n f k low high p).2.2=true->at_+k<=s.size->at_+(mG s at_ n f k low high p).2.1<=s.size)
 |0,k,low,high,p,h1,h2=>by simp only[mG];omega
 |f+1,k,low,high,p,h1,h2=>by
  unfold mG
  split
  ·simp only[];omega
  split
  ·simp only[];omega
  have ih:=ajx s at_ n f (k+1) 128 191 (rP .or .i64 (IntKind.i64.wrap<|p*2^6)<|rP .and .i64 (eO s<|at_+k) 63) O O;refine⟨by have:=ih.1;omega,ih.2.1,fun h3 h4=>ih.2.2 h3 O⟩
theorem Qb(s:ByteArray)(i:Nat)(hi:i<s.size):(iO s i).2.1<=4∧((iO s i).2.2=true->1<=(iO s i).2.1∧i+(iO s i).2.1<=s.size):=by
 have ht:=Xd<|eO s i
 unfold iO
 simp only[]
 split
 ·simp
 split
 ·simp;omega
 have:=ajx s i (jo<|eO s i).2.2.toNat 4 1 (jo<|eO s i).1 (jo<|eO s i).2.1 (rP .and .i64 (eO s i) ((127:Int).fdiv (2^(jo<|eO s i).2.2.toNat))) O O;refine⟨O,fun h=>⟨O,this.2.2 h O⟩⟩
def gq(s:ByteArray)(i:Nat):Int :=
 if h:i<s.size then(if h2:(iO s i).2.2=true then gq s (i+(iO s i).2.1)else i)else -1
 termination_by s.size-i
 decreasing_by have:=(Qb s i h).2 h2;omega
theorem aAj(G:GH)(w0:World)(hG:Hold G w0)(s:ByteArray)(hs:s.size<4611686018427387904) :
  Calls prog 165 #[.string s] w0 (bD w0 G fun v G'=>v=.int .i64 (gq s 0)∧G=G'):=by
 refine eN [(0,_)] func165 M ntmps165 M M hG ?_;intro a H;refine kP H<|SR fun _ K1=>ak K1 M<|SQ fun _ K2=>SR fun _ K3=>ak K3 M<|SB ?_;clear H K1 K3;intro a H;skip;refine dY (ι:=Nat) (Tc:=[(0,_)]) (Lc:=[]) (fun gh=>[(3,.int .i64 (gh:Int))]) (fun gh=>[]) (fun gh=>G) (fun gh=>gh<=s.size∧gq s 0=gq s gh) (fun gh=>s.size-gh) (0) (by exact H.sub ⟨M,M,aC⟩) ?_ ?_
 ·exact⟨O,M⟩
 clear H;intro i a w hI H;obtain⟨hk,hf⟩:=hI;dsimp only[lca,bq]at H;refine kP H (SQ fun _ K1=>SR fun _ K3=>Rm M<|Rm M<|Rv gZ M<|Rc M<|Kz K3<|Cd M ?_ ?_)<;>clear H K3
 ·intro h10 a H
  try have lC:=dT h10
  refine kP H<|Kc K1<|SB<|SR fun _ K3=>Rm M<|Rm M ?_;clear H K1;intro a H;refine s_call ayn H wn M (awF _ _ H.ro s i O hs) M ?_;clear H;rintro v14 _ a w ⟨rfl,rfl⟩-H;have hd:=Qb s i O;refine kH H<|Rm M ?_;clear H;intro a H;(iterate 3 refine iH H wn M M M ?_;clear H;intro a H);refine kH H (Ra M<|Ra M<|ak K3 M<|SQ fun _ K1=>SR fun _ K4=>Rm M<|Rn M<|Kz K4<|Cd M ?_ ?_)<;>clear H K3 K4
  ·intro h19 a H
   try have vQ:=dT h19
   exact kP H (SR fun _ K3=>Rm M<|ak K3 M<|LR results165 M fun H=>H.rt ⟨by rw[hf,gq,dif_pos O,dif_neg (by simpa using h19)],M⟩)
  intro h19 a H
  try have vQ:=dF h19
  refine kP H<|Kc K1<|SC<|Rm M<|Rm M<|Rd M<|Ra M ?_;clear H K1;intro a H;refine aI ?_;refine aEI ((i+(iO s i).2.1)) (by exact H.sub ⟨M,M,aC⟩) ?_ ?_
  ·have h1:(iO s i).2.2=true:=by simpa using h19
   have h2:=hd.2 h1;refine⟨O,?_⟩;rw[hf,gq,dif_pos O,dif_pos h1]
  have h1:(iO s i).2.2=true:=by simpa using h19
  have h2:=hd.2 h1
  omega
 intro h10 a H
 try have lC:=dF h10
 refine dS ?_;refine K2 _ _ ?_;clear K2;exact kP H (SR fun _ K2=>ak K2 M<|LR results165 M fun H=>H.rt ⟨by rw[hf,gq,dif_neg O],M⟩)
def iI(s:ByteArray):Bool:=decide (gq s 0<0)
theorem Lj(G:GH)(w0:World)(hG:Hold G w0)(s:ByteArray)(hs:s.size<4611686018427387904) :
  Calls prog 89 #[.string s] w0 (bD w0 G fun v G'=>v=.bool (iI s)∧G=G'):=by
 refine eN [(0,_)] func89 M ntmps89 M M hG<|SR fun _ K1=>ak K1 M<|SR fun _ K2=>Rm M fun a H=>s_call axB H wn M (aAj _ _ H.ro s hs) M ?_;rintro v4 _ a w ⟨rfl,rfl⟩-H;exact kH H<|Rc M<|ak K2 M<|LR results89 M fun H=>H.rt ⟨M,M⟩
def iM(s:ByteArray)(i:Nat):Nat :=
 if i<s.size then(if rP .and .u8 (eO s i) 192=128 then 0 else 1)+iM s (i+1)else 0
 termination_by s.size-i
theorem ajf(s:ByteArray):∀(n i:Nat),s.size-i=n->iM s i<=n
 |0,i,h=>by rw[iM,bQ];exact eP _
 |n+1,i,h=>by
  have ih:=ajf s n (i+1) O;rw[iM,iw]
  split <;>omega
def dU(s:ByteArray):Nat:=if iI s then iM s 0 else 0
def I4(s:ByteArray):Int:=if iI s then 0 else 12
theorem Fu(s:ByteArray):dU s<=s.size:=by unfold dU;have:=ajf s s.size 0 O;split <;>omega
theorem aad(G:GH)(w0:World)(hG:Hold G w0)(s:ByteArray)(hs:s.size<4611686018427387904) :
  Calls prog 96 #[.string s] w0 (bD w0 G fun v G'=>v=.tuple #[vi (dU s),vi<|I4 s]∧G=G'):=by
 refine eN [(0,_)] func96 M ntmps96 M M hG<|SR fun _ K1=>Ra M<|ak K1 M<|SQ fun _ K2=>SR fun _ K3=>Rm M fun a H=>s_call JJ H wn M (Lj _ _ H.ro s hs) M ?_;clear H;rintro v6 _ a w ⟨rfl,rfl⟩-H;refine kH H (Rn M<|Kz K3<|Cd M ?_ ?_)<;>clear H K3
 ·refine fun h7=>SR fun _ K1=>Ra M<|ak K1 M fun a H=>eH ((gV H results96 (.cons (cK H M) (.cons (cK H M) .nil)) ?_).1);exact H.rt ⟨by simp[dU,I4,show iI s=false by simpa using h7],M⟩
 intro h7 a H
 try have p7:=dF h7
 refine kP H<|Kc K2<|SQ fun _ K1=>SR fun _ K3=>Rm M<|Rv gZ M<|Rm M<|Kz K3<|SB ?_;clear H K2 K3;intro a H;skip;refine dY (ι:=Nat×Nat) (Tc:=[(0,_),(9,_)]) (Lc:=[]) (fun gh=>[(2,vi gh.2),(10,vi gh.1)]) (fun gh=>[]) (fun gh=>G) (fun gh=>gh.1<=s.size∧gh.2<=gh.1∧gh.2+iM s gh.1=dU s) (fun gh=>s.size-gh.1) ((0,0)) (by exact H.sub ⟨M,M,M,M,aC⟩) ?_ ?_
 ·exact⟨O,O,by simp[dU,show iI s=true by simpa using h7]⟩
 clear H;rintro⟨i,n⟩ a w hI H;dsimp only at hI H;obtain⟨hk,hn,hf⟩:=hI;dsimp only[lca,bq]at H;refine kP H (SR fun _ K2=>Rc M<|Kz K2<|SQ fun _ K3=>Cd M ?_ ?_)<;>clear H K2
 ·intro h11 a H
  try have pR:=dT h11
  refine kP H (Kc K3<|SQ fun _ K2=>SB<|SR fun _ K4=>Rm M<|ak K4 M<|SR fun _ K5=>Rm M<|Rm M fun a H=>qO _ gZ H wn M M M (by first|assumption|omega) rfl fun a H=>R5 M H wn M M M<|Rc M<|Kz K5<|Cd M ?_ ?_)<;>clear H K5
  ·intro dL a H
   try have lD:=dT dL
   refine kP H (SC (Rm M (Rd M (bZ K2 M (SC (Rd M (Rm M fun a H=>aI (dO ((i+1,n+1)) (by exact H.sub ⟨M,M,M,M,aC⟩) ?_))))))))
   (try dsimp only);rw[<-lN O]at lD;rw[iM,iw,au lD]at hf;exact⟨O,O,O⟩
  intro dL a H
  try have lD:=dF dL
  refine kP H (Kc K2 (SC (Rd M (Rm M fun a H=>aI (dO ((i+1,n)) (by exact H.sub ⟨M,M,M,M,aC⟩) ?_)))))
  (try dsimp only);rw[<-lN O,nL]at lD;rw[iM,iw,ay lD]at hf;exact⟨O,O,O⟩
 intro h11 a H
 try have pR:=dF h11
 refine dS<|K1 _ _<|kP H<|SR fun _ K1=>Rm M<|Ra M<|ak K1 M fun a H=>eH ((gV H results96 (.cons (cK H M) (.cons (cK H M) .nil)) ?_).1);exact H.rt ⟨by rw[iM,bQ,oZ]at hf;rw[hf];simp[I4,show iI s=true by simpa using h7],M⟩
theorem Sk:prog.underlying 313=some (.slice 258):=by kernel_rfl
theorem wX:Ty prog 258 6 56 [.int .i64 0,.int .i64 0,.int .i64 0,.int .i64 0,.int .i64 0,.string ⟨#[]⟩] true:=⟨V,V⟩
theorem aqV:sO prog 258 [(0,1),(1,1),(2,1),(3,1),(4,1),(5,1)] [.int .i64 0,.int .i64 0,.int .i64 0,.int .i64 0,.int .i64 0,.string ⟨#[]⟩]:=⟨V,V⟩
theorem aav:aW 233:=aX func233 M
structure kI where
 num:Int
 M0:Int
 low:Int
 high:Int
 std:Int
 name:ByteArray
def kI.dat(x:kI):List Dat:=[li x.num,li x.M0,li x.low,li x.high,li x.std,.lf (.string x.name)]
def kI.cells(x:kI):List aj:=[vi x.num,vi x.M0,vi x.low,vi x.high,vi x.std,.string x.name]
def jy.cells(x:jy):List aj:=[vi x.key,vi x.value]
theorem aEm(G:GH)(x:kI):bg G x.dat x.cells:=by
 simp only[kI.dat,kI.cells,bg]
 exact⟨_,_,M,by simp[av,Value.oneCell'],_,_,M,by simp[av,Value.oneCell'],_,_,M,by simp[av,Value.oneCell'],_,_,M,by simp[av,Value.oneCell'],_,_,M,by simp[av,Value.oneCell'],_,_,M,by simp[av,Value.oneCell'],M⟩
theorem aEl{G:GH}{x:kI}{cs:List aj}(h:bg G x.dat cs):cs=x.cells:=by
 simp only[kI.dat,bg,av]at h
 obtain⟨v1,_,rfl,⟨rfl,-⟩,v2,_,rfl,⟨rfl,-⟩,v3,_,rfl,⟨rfl,-⟩,v4,_,rfl,⟨rfl,-⟩,v5,_,rfl,⟨rfl,-⟩,v6,_,rfl,⟨rfl,-⟩,rfl⟩:=h
 rfl
theorem adu{G:GH}{x:jy}{cs:List aj}(h:bg G x.dat cs):cs=x.cells:=by
 simp only[jy.dat,bg,av]at h
 obtain⟨v1,_,rfl,⟨rfl,-⟩,v2,_,rfl,⟨rfl,-⟩,rfl⟩:=h
 rfl
theorem aod(G:GH):∀(B A:List kI),bR G 6 (A.map kI.dat) (A.map kI.cells).flatten->bR G 6 ((A++B).map kI.dat) ((A++B).map kI.cells).flatten
 |[],A,h=>by rw[iR];exact h
 |x::B,A,h=>by
  have h2:=h.snoc (aEm G x) M;have h3:=aod G B (A++[x]) (by simpa using h2)
  simpa using h3
theorem aEn(G:GH)(A:List kI):bR G 6 (A.map kI.dat) (A.map kI.cells).flatten:=aod G A [] bR.nil
theorem Mj {p:Prop} (h:p:=by
 exact ⟨b,o,h1,h3⟩):p:=h
theorem acL{G:GH}{l:List kI}{A:Option Addr}{n c k:Nat}(hv:av G (.sl 6<|l.map kI.dat) (.slice A n c))(hk:k<l.length):∃b o,A=some ⟨b,o,none⟩∧(∀j u,[vi l[k].num,vi l[k].M0,vi l[k].low,vi l[k].high,vi l[k].std,.string l[k].name][j]?=some u->aJ G b (o+k*6+j)=some u):=by
 obtain⟨A',c',he,_,_,hg⟩:=hv.slice
 injection he with e1 e2 e3
 subst e1;obtain⟨b,o,cs,h1,h2,h3,h4⟩:=hg k l[k].dat (by simp[hk]);obtain rfl:=aEl h4;exact Mj
theorem WH{G:GH}{l:List jy}{A:Option Addr}{n c k:Nat}(hv:av G (.sl 2<|l.map jy.dat) (.slice A n c))(hk:k<l.length):∃b o,A=some ⟨b,o,none⟩∧(∀j u,[vi l[k].key,vi l[k].value][j]?=some u->aJ G b (o+k*2+j)=some u):=by
 obtain⟨A',c',he,_,_,hg⟩:=hv.slice
 injection he with e1 e2 e3
 subst e1;obtain⟨b,o,cs,h1,h2,h3,h4⟩:=hg k l[k].dat (by simp[hk]);obtain rfl:=adu h4;exact Mj
def KG:List kI:=[⟨1,1,0,1073741824,0,⟨#[99,104,97,114,97,99,116,101,114,45,115,116,121,108,101]⟩⟩,⟨2,1,0,1,0,⟨#[98,111,108,100]⟩⟩,⟨3,1,0,1,0,⟨#[105,116,97,108,105,99]⟩⟩,⟨4,1,0,3,0,⟨#[117,110,100,101,114,108,105,110,101]⟩⟩,⟨5,1,2,1638,22,⟨#[115,105,122,101]⟩⟩,⟨6,1,0,16777215,0,⟨#[99,111,108,111,114]⟩⟩,⟨7,1,0,63,0,⟨#[102,111,110,116]⟩⟩,⟨8,1,0,255,0,⟨#[108,97,110,103,117,97,103,101]⟩⟩,⟨9,1,-400,400,0,⟨#[114,97,105,115,101]⟩⟩,⟨10,1,0,1,0,⟨#[104,105,100,100,101,110]⟩⟩,⟨20,2,0,1073741824,0,⟨#[112,97,114,97,103,114,97,112,104,45,115,116,121,108,101]⟩⟩,⟨21,2,0,3,0,⟨#[97,108,105,103,110]⟩⟩,⟨22,2,-31680,31680,0,⟨#[108,101,102,116]⟩⟩,⟨23,2,-31680,31680,0,⟨#[114,105,103,104,116]⟩⟩,⟨24,2,-31680,31680,0,⟨#[102,105,114,115,116]⟩⟩,⟨25,2,0,31680,0,⟨#[98,101,102,111,114,101]⟩⟩,⟨26,2,0,31680,0,⟨#[97,102,116,101,114]⟩⟩,⟨27,2,0,31680,0,⟨#[108,101,97,100,105,110,103]⟩⟩,⟨28,2,0,1,0,⟨#[107,101,101,112,45,110,101,120,116]⟩⟩,⟨29,2,0,1,0,⟨#[107,101,101,112,45,108,105,110,101,115]⟩⟩,⟨30,2,0,1,1,⟨#[119,105,100,111,119]⟩⟩,⟨31,2,0,1,0,⟨#[112,97,103,101,45,98,101,102,111,114,101]⟩⟩,⟨32,2,0,9,0,⟨#[111,117,116,108,105,110,101]⟩⟩,⟨33,2,0,1073741824,0,⟨#[108,105,115,116]⟩⟩,⟨34,2,1,9,1,⟨#[108,101,118,101,108]⟩⟩,⟨35,2,0,32767,0,⟨#[114,101,115,116,97,114,116]⟩⟩,⟨36,2,1,31680,720,⟨#[116,97,98,45,115,116,111,112]⟩⟩,⟨37,2,0,1,0,⟨#[104,121,112,104,101,110,97,116,101]⟩⟩,⟨40,3,720,31680,12240,⟨#[112,97,103,101,45,119,105,100,116,104]⟩⟩,⟨41,3,720,31680,15840,⟨#[112,97,103,101,45,104,101,105,103,104,116]⟩⟩,⟨42,3,0,31680,1440,⟨#[116,111,112]⟩⟩,⟨43,3,0,31680,1440,⟨#[98,111,116,116,111,109]⟩⟩,⟨44,3,0,31680,1440,⟨#[105,110,110,101,114]⟩⟩,⟨45,3,0,31680,1440,⟨#[111,117,116,101,114]⟩⟩,⟨46,3,0,32767,0,⟨#[102,105,114,115,116,45,112,97,103,101]⟩⟩,⟨47,3,1,6,1,⟨#[112,97,103,101,45,102,111,114,109,97,116]⟩⟩,⟨50,4,0,1,0,⟨#[104,101,97,100,101,114]⟩⟩,⟨51,4,0,1,0,⟨#[99,97,110,116,45,115,112,108,105,116]⟩⟩,⟨52,4,0,31680,0,⟨#[114,111,119,45,104,101,105,103,104,116]⟩⟩,⟨60,5,1,32,1,⟨#[99,111,108,117,109,110,45,115,112,97,110]⟩⟩,⟨61,5,0,2,0,⟨#[118,101,114,116,105,99,97,108,45,109,101,114,103,101]⟩⟩,⟨62,5,0,31680,0,⟨#[99,101,108,108,45,119,105,100,116,104]⟩⟩,⟨63,5,0,16777215,16777215,⟨#[115,104,97,100,101]⟩⟩,⟨70,6,0,31680,0,⟨#[116,97,98,108,101,45,119,105,100,116,104]⟩⟩,⟨71,6,0,2,0,⟨#[116,97,98,108,101,45,97,108,105,103,110]⟩⟩]
set_option maxRecDepth 20000 in
theorem aEo(G:GH)(w0:World)(hG:Hold G w0):Calls prog 221 #[] w0 (bD w0 G fun u G'=>av G' (.sl 6<|KG.map kI.dat) u):=by
 refine eN [] func221 M ntmps221 M M hG ?_;intro a H;refine kP H<|SR fun _ K1=>ak K1 M<|SR fun _ K2=>?_;clear H K1;intro a H;(iterate 45 refine jM aqV [_,_,_,_,_,_] H wn M M M M ?_;clear H;intro a H);refine adL Sk wX (KG.map kI.cells) H wn M M M M M M M ?_;clear H;intro b46 a w aJX H;refine kH H<|ak K2 M ?_;clear H K2;intro a H;refine lr H results221 M ?_;obtain⟨Gz,hmz,hbz,H⟩:=H.eX;exact H.rt (av.uK (n:=45) (cap:=45) hbz M (eP _) (show 45<=maxLen by decide) (jX<|eP _)<|aEn _ _)
theorem acE(G:GH)(w0:World)(hG:Hold G w0)(x:Int):Calls prog 233 #[vi x] w0 (bD w0 G fun u G'=>u=.bool false∧G=G'):=by
 exact eN [(0,_)] func233 M ntmps233 M M hG (SR fun _ K1=>ak K1 M<|SR fun _ K2=>Rm M<|Rm M<|Rc M<|ak K2 M<|LR results233 M fun H=>H.rt ⟨by simp,M⟩)
theorem Pq {p:Prop} (h:p:=by
 split
 ·omega
 split <;> omega):p:=h
theorem Z8{x y z:Int}(h:(x<y∧z=-1)∨(y<x∧z=1)∨(x=y∧z=0)):z=Fq x y:=by
 unfold Fq;exact Pq
theorem awk(G:GH)(w0:World)(hG:Hold G w0)(x y:Int):Calls prog 224 #[vi x,vi y] w0 (bD w0 G fun u G'=>u=vi (Fq x y)):=by
 refine eN [(0,_),(1,_)] func224 M ntmps224 M M hG<|SR fun _ K1=>ak K1 M<|SR fun _ K2=>Rm M fun a H=>s_call aav H wn M (acE _ _ H.ro x) M ?_;clear H;rintro v8 G8 a w ⟨rfl,-⟩ El H;refine kH H<|ak K2 M<|SR fun _ K1=>Rm M fun a H=>s_call aav H wn M (acE _ _ H.ro y) M ?_;clear H;rintro v10 sN a w ⟨rfl,-⟩ uw H;refine kH H (ak K1 M<|SQ fun _ K2=>SR fun _ K3=>Rm M<|Kz K3<|Cd M ?_ ?_)<;>clear H K1 K3
 ·intro h11 a H
  cases h11
 intro h11 a H
 try have pR:=dF h11
 refine kP H (Kc K2<|SQ fun _ K1=>SR fun _ K3=>Rm M<|Kz K3<|Cd M ?_ ?_)<;>clear H K2 K3
 ·intro iA a H
  cases iA
 intro iA a H
 try have tK:=dF iA
 refine kP H (Kc K1<|SQ fun _ K2=>SR fun _ K3=>Rm M<|Rm M<|Rc M<|Kz K3<|Cd M ?_ ?_)<;>clear H K1 K3
 ·intro h16 a H
  try have p16:=dT h16
  exact kP H<|SR fun _ K1=>ak K1 M<|LR results224 M fun H=>H.rt<|cO vi<|Z8 O
 intro h16 a H
 try have p16:=dF h16
 refine kP H (Kc K2<|SQ fun _ K1=>SR fun _ K3=>Rm M<|Rm M<|Rc M<|Kz K3<|Cd M ?_ ?_)<;>clear H K2 K3
 ·intro h19 a H
  try have vQ:=dT h19
  exact kP H<|SR fun _ K2=>ak K2 M<|LR results224 M fun H=>H.rt<|cO vi<|Z8 O
 intro h19 a H
 try have vQ:=dF h19
 exact kP H<|Kc K1<|SR fun _ K2=>ak K2 M<|LR results224 M fun H=>H.rt<|cO vi<|Z8 O
theorem hmx:prog.follows .mixedOrders=true:=by kernel_rfl
theorem iW:dG prog 118 0 0:=⟨V⟩
theorem aF:Ty prog 3 1 8 [.int .i64 0] false:=⟨V,V⟩
theorem pE:dG prog 118 3 3:=⟨V⟩
theorem gN:Ty prog 9 1 16 [.string ⟨#[]⟩] false:=⟨V,V⟩
theorem aaF:aW 96:=aX func96 M
theorem dM:prog.underlying 22=some (.slice 118):=by kernel_rfl
theorem bL:Ty prog 118 11 176 [.int .i64 0,.int .i64 0,.int .i64 0,.string ⟨#[]⟩,.slice none 0 0,.int .i64 0,.int .i64 0,.slice none 0 0,.slice none 0 0,.slice none 0 0,.slice none 0 0] true:=⟨V,V⟩
theorem Uw:aW 141:=aX func141 M
theorem tT:prog.underlying 23=some (.slice 185):=by kernel_rfl
theorem qR:Ty prog 185 2 16 [.int .i64 0,.int .i64 0] true:=⟨V,V⟩
theorem uM:prog.underlying 24=some (.slice 188):=by kernel_rfl
theorem vZ:Ty prog 188 2 16 [.int .i64 0,.int .i64 0] true:=⟨V,V⟩
theorem wZ:prog.underlying 25=some (.slice 190):=by kernel_rfl
theorem wh:Ty prog 190 4 32 [.int .i64 0,.int .i64 0,.int .i64 0,.bool false] true:=⟨V,V⟩
theorem oC:Ty prog 29 5 88 [.slice none 0 0,.int .i64 0,.int .i64 0,.slice none 0 0,.slice none 0 0] true:=⟨V,V⟩
theorem JO:dG prog 29 0 0:=⟨V⟩
theorem Dy:Ty prog 23 1 24 [.slice none 0 0] false:=⟨V,V⟩
theorem akb:aW 225:=aX func225 M
theorem xP:dG prog 29 1 1:=⟨V⟩
theorem Bn:dG prog 27 2 2:=⟨V⟩
theorem BR:Ty prog 24 1 24 [.slice none 0 0] false:=⟨V,V⟩
theorem ays:aW 226:=aX func226 M
theorem Hz:dG prog 27 3 3:=⟨V⟩
theorem IV:Ty prog 25 1 24 [.slice none 0 0] false:=⟨V,V⟩
theorem ayt:aW 227:=aX func227 M
theorem jI:prog.underlying 56=some (.slice 121):=by kernel_rfl
theorem iC:Ty prog 121 6 112 [.slice none 0 0,.int .i64 0,.int .i64 0,.slice none 0 0,.slice none 0 0,.slice none 0 0] true:=⟨V,V⟩
theorem ko:prog.underlying 57=some (.slice 124):=by kernel_rfl
theorem iQ:Ty prog 124 7 120 [.int .i64 0,.slice none 0 0,.int .i64 0,.int .i64 0,.slice none 0 0,.slice none 0 0,.slice none 0 0] true:=⟨V,V⟩
theorem JN:dG prog 124 0 0:=⟨V⟩
theorem Qk:dG prog 124 1 1:=⟨V⟩
theorem Qe:aW 168:=aX func168 M
theorem Cr:dG prog 124 2 6:=⟨V⟩
theorem eG:Ty prog 22 1 24 [.slice none 0 0] false:=⟨V,V⟩
theorem Uv:aW 140:=aX func140 M
theorem aqT:sO prog 124 [(0,1),(1,5),(6,1)] [.int .i64 0,.slice none 0 0,.int .i64 0,.int .i64 0,.slice none 0 0,.slice none 0 0,.slice none 0 0]:=⟨V,V⟩
theorem Qj:dG prog 121 0 0:=⟨V⟩
theorem rT:dG prog 121 1 5:=⟨V⟩
theorem qD:Ty prog 57 1 24 [.slice none 0 0] false:=⟨V,V⟩
theorem akc:aW 228:=aX func228 M
theorem aqS:sO prog 121 [(0,5),(5,1)] [.slice none 0 0,.int .i64 0,.int .i64 0,.slice none 0 0,.slice none 0 0,.slice none 0 0]:=⟨V,V⟩
theorem vG:dG prog 118 4 4:=⟨V⟩
theorem uU:dG prog 118 5 9:=⟨V⟩
theorem mZ:dG prog 118 6 10:=⟨V⟩
theorem lX:Ty prog 56 1 24 [.slice none 0 0] false:=⟨V,V⟩
theorem aap:aW 170:=aX func170 M
theorem ajW:aW 199:=aX func199 M
theorem ayF:aW 242:=aX func242 M
theorem aya:aW 201:=aX func201 M
theorem axZ:aW 200:=aX func200 M
def bO(x:ah):Nat:=if x.kind=1 then dU x.text else 1
def tX(x:ah):Int:=if x.kind=1 then I4 x.text else 0
theorem Xt(G:GH)(w0:World)(hG:Hold G w0)(x:ah)(i2 i3:Int)(p i5 i6 d l f r:aj)(hs:x.text.size<4611686018427387904) :
  Calls prog 141 #[.agg #[vi x.kind,vi i2,vi i3,.string x.text,p,i5,i6,d,l,f,r]] w0 (bD w0 G fun v G'=>v=.tuple #[vi (bO x),vi<|tX x]∧G=G'):=by
 refine eN [(0,_)] func141 M ntmps141 M M hG fun a H=>dw (fun _ K1=>eD (cs:=[_,_,_,_,_,_,_,_,_,_,_]) H wn M M M fun b1 a w hb1 H=>kH H<|Ra M<|ak K1 M<|SQ fun _ K2=>SR fun _ K3=>aV iW aF 0 M M<|Rc M<|Kz K3<|Cd M ?_ ?_)<;>clear H K1 K3
 ·intro h6 a H
  try have p6:=dT h6
  refine kP H<|SR fun _ K1=>Ra M<|ak K1 M fun a H=>eH ((gV H results141 (.cons (cK H M) (.cons (cK H M) .nil)) ?_).1);exact H.rt ⟨by simp only[bO,tX,au p6];rfl,rfl⟩
 intro h6 a H
 try have p6:=dF h6
 refine kP H<|Kc K2<|SR fun _ K1=>aV pE gN 0 M M fun a H=>s_call aaF H wn M (aad _ _ H.ro _ hs) M ?_;rintro v9 _ a w ⟨rfl,rfl⟩-H;(iterate 2 refine iH H wn M M M ?_;intro a H);refine kH H<|Ra M<|ak K1 M fun a H=>eH ((gV H results141 (.cons (cK H M) (.cons (cK H M) .nil)) ?_).1);exact H.rt ⟨by rw[nL]at p6;simp only[bO,tX,ay p6],M⟩
def yN(l:List ah):Bool:=l.all fun x=>decide (tX x=0)
def bC:List ah->Nat
 |[]=>0
 |x::l=>bO x+bC l
def kL(l:List ah):Int:=if yN l then bC l else 0
def zm(l:List ah):Int:=if yN l then 0 else 12
def kN:List ah->Nat
 |[]=>0
 |x::l=>x.text.size+1+kN l
theorem Lb:∀l:List ah,bC l<=kN l
 |[]=>eP _
 |x::l=>by
  have:=Lb l;have h2:=Fu x.text
  simp only[bC,kN,bO];split <;>omega
theorem arz{x:ah}:∀{l:List ah},x∈l->x.text.size<kN l
 |[],h=>by cases h
 |y::l,h=>by
  simp only[kN]
  rcases iL.1 h with rfl|h
  ·omega
  have:=arz h;omega
theorem aH9(l m:List ah):bC (l++m)=bC l+bC m:=by
 induction l with
 |nil=>simp[bC]
 |cons x l ih=>simp[bC,ih];omega
theorem aIa{l:List ah}{k:Nat}(h:k<l.length):bC (l.take<|k+1)=bC (l.take k)+bO l[k]:=by
 rw[ji h,aH9];simp[bC]
theorem Gy(l m:List ah):kN (l++m)=kN l+kN m:=by
 induction l with
 |nil=>simp[kN]
 |cons x l ih=>simp[kN,ih];omega
theorem Oy(l:List ah)(k:Nat):kN (l.take k)<=kN l:=by
 have:=Gy (l.take k)<|l.drop k;rw[List.take_append_drop]at this;omega
theorem vI{G:GH}{l:List ah}{A:Option Addr}{k:Nat}(hk:k<l.length)(hg:∀k r,(l.map ah.dat)[k]?=some r->∃b o cs,A=some ⟨b,o,none⟩∧cs.length=11∧(∀j u,cs[j]?=some u->aJ G b (o+k*11+j)=some u)∧bg G r cs) :
  ∃b o pA pn pc dA dn dc yA yn yc fA fn fc rA rn rc,A=some ⟨b,o,none⟩∧(∀j u,[vi l[k].kind,vi l[k].code,vi l[k].id,.string l[k].text,.slice pA pn pc,vi l[k].head.marks.ins,vi l[k].head.marks.move,.slice dA dn dc,.slice yA yn yc,.slice fA fn fc,.slice rA rn rc][j]?=some u->aJ G b (o+k*11+j)=some u)∧
   kr G l[k].head (.slice pA pn pc) (.slice dA dn dc) (.slice yA yn yc)∧av G (.sl 11<|l[k].flow.map ah.dat) (.slice fA fn fc)∧av G (.sl 6<|l[k].rows.map aN.dat) (.slice rA rn rc):=by
 obtain⟨b,o,cs,h1,h2,h3,h4⟩:=hg k l[k].dat (by simp[hk]);obtain⟨pA,pn,pc,dA,dn,dc,yA,yn,yc,fA,fn,fc,rA,rn,rc,rfl,h5,h6,h7⟩:=h4.item;exact⟨b,o,pA,pn,pc,dA,dn,dc,yA,yn,yc,fA,fn,fc,rA,rn,rc,h1,h3,h5,h6,h7⟩
theorem awK{l:List ah}{k:Nat}(h:k<l.length):yN (l.take<|k+1)=(yN (l.take k)&&decide (tX l[k]=0)):=by
 unfold yN
 rw[ji h,List.all_append];simp
theorem awJ{l:List ah}{k:Nat}(h:k<l.length)(hn:¬tX l[k]=0):yN l=false:=by
 unfold yN
 rw[List.all_eq_false];exact⟨l[k],ig h,by simpa using hn⟩
theorem NP:∀l:List ah,l.length<=kN l
 |[]=>eP _
 |x::l=>by have:=NP l;simp only[lK,kN];omega
theorem Dt:∀l:List ah,kN l<=aR l
 |[]=>eP _
 |x::l=>by
  have:=Dt l;have h2:=lY x
  simp only[kN,aR,dV,fE]at *;omega
theorem V4(G:GH)(w0:World)(hG:Hold G w0)(l:List ah)(v:aj)(hv:av G (.sl 11<|l.map ah.dat) v)(hz:aR l<=4294967296) :
  Calls prog 62 #[v] w0 (bD w0 G fun v G'=>v=.tuple #[vi (kL l),vi<|zm l]∧G=G'):=by
 obtain⟨A,c,rfl,hc1,hc2,hg⟩:=hv.slice;rw[bM]at *;have hll:=NP l;have htz:=Dt l;refine eN [(0,_)] func62 M ntmps62 M M hG ?_;intro a H;refine kP H<|SR fun _ K1=>Ra M<|ak K1 M<|SR fun _ K2=>ak K2 M<|SQ fun _ K3=>SR fun _ K4=>Rm M<|Rl dM M<|Rm M<|Kz K4<|SB ?_;clear H K1 K2 K4;intro a H;skip;refine dY (ι:=Nat) (Tc:=[(9,_),(10,_)]) (Lc:=[]) (fun gh=>[(4,vi<|bC<|l.take gh),(11,vi gh)]) (fun gh=>[]) (fun gh=>G) (fun gh=>gh<=l.length∧yN (l.take gh)=true) (fun gh=>l.length-gh) (0) (by exact H.sub ⟨M,M,M,M,aC⟩) ?_ ?_
 ·exact⟨O,by simp[yN]⟩
 clear H;intro k a w hI H;obtain⟨hk,hd⟩:=hI;dsimp only[lca,bq]at H;refine kP H (SR fun _ K1=>Rc M<|Kz K1<|SQ fun _ K2=>Cd M ?_ ?_)<;>clear H K1
 ·intro h12 a H
  try have nU:=dT h12
  have hk2:k<l.length:=by omega
  obtain⟨b,o,pA,pn,pc,dA,dn,dc,yA,yn,yc,fA,fn,fc,rA,rn,rc,rfl,hrow,-⟩:=vI hk2 hg;have hsm:=aIa hk2;have hle:=Lb<|l.take<|k+1;have hle2:=Oy l<|k+1;refine kP H<|Kc K2<|SQ fun _ K1=>SB<|SR fun _ K4=>Ri dM bL M M ?_;clear H K2;intro a H;refine aY bL (cs:=[_,_,_,_,_,_,_,_,_,_,_]) H wn M M (fun j v hj=>H.hp.aJ<|hrow j v hj) M ?_;clear H;intro a H;refine dK bL H wn M ?_;clear H;intro b6 a w hb6 H;refine bH bL 0 (vs:=[_,_,_,_,_,_,_,_,_,_,_]) H wn M ?_;clear H;intro w H;refine K4 _ _ ?_;clear K4;refine dw<|fun _ K2=>?_;refine aY bL (cs:=[_,_,_,_,_,_,_,_,_,_,_]) H wn M M (H.hp.dB 0 M M) M ?_;clear H;intro a H;refine s_call Uw H wn M (Xt _ _ H.ro _ _ _ _ _ _ _ _ _ _ (by have:=arz<|ig hk2;omega)) rfl ?_;clear H;rintro v17 _ a w ⟨rfl,rfl⟩-H;refine kH H<|Rm M ?_;clear H;intro a H;(iterate 2 refine iH H wn M M M ?_;clear H;intro a H);refine kH H (Ra M<|ak K2 M<|SQ fun _ K4=>SR fun _ K5=>Rm M<|Rc M<|Kz K5<|Cd M ?_ ?_)<;>clear H K2 K5
  ·intro h21 a H
   try have sG:=dT h21
   refine kP H<|SR fun _ K2=>Ra M<|ak K2 M ?_;clear H K2;intro a H;refine eH ?_;refine(gV H results62 (.cons (cK H M) (.cons (cK H M) .nil)) ?_).1;exact H.rt ⟨by simp[kL,zm,awJ hk2 sG],M⟩
  intro h21 a H
  try have sG:=dF h21
  refine kP H<|Kc K4<|SC<|Rm M<|Rm M<|Rd M ?_;clear H K4;intro a H;rw[<-Int.natCast_add,<-hsm]at H;refine kH H<|bZ K1 M<|SC<|Rd M<|Rm M ?_;clear H K1;intro a H;refine aI ?_;refine dO ((k+1)) (by exact(H.dR (Pl:=[_]) (dH:=[]) [] Z M).sub ⟨M,M,M,M,aC⟩) ?_
  exact⟨O,by rw[awK hk2,hd];simpa using sG⟩
 intro h12 a H
 try have nU:=dF h12
 refine dS ?_;refine K3 _ _ ?_;clear K3;refine kP H<|SR fun _ K1=>Rm M<|Ra M<|ak K1 M ?_;clear H K1;intro a H;refine eH ?_;refine(gV H results62 (.cons (cK H M) (.cons (cK H M) .nil)) ?_).1;exact H.rt ⟨by rw[show l.take k=l from jX O]at hd|-;simp[kL,zm,hd],M⟩
theorem ajb(G:GH)(w0:World)(hG:Hold G w0)(rows:List (List Dat))(A:Option Addr)(n c:Nat)(hv:av G (.sl 2 rows) (.slice A n c))(hz:rows.length<=4294967296) :
  Calls prog 225 #[.slice A n c] w0 (bD w0 G fun v G'=>av G' (.sl 2 rows) v):=by
 obtain⟨hn,hc1,hc2,hnil,hx⟩:=hv.cells;refine eN [(0,_)] func225 M ntmps225 M M hG<|SR fun _ K1=>ak K1 M<|SQ fun _ K2=>SR fun _ K3=>Rm M fun a H=>EF tT H wn M M fun a H=>K3 _ _<|jU H M ?_ ?_
 ·intro h4;exact kP H (SR fun _ K1=>ak K1 M (LR results225 M fun H=>H.rt (by rw[hnil (by simpa using h4)];exact av.nT M (by simp[maxLen]))))
 intro h4;refine fU<|K2 _ _<|bU<|fun _ K1=>?_
 have hA:¬A=none:=by intro e;rw[e]at h4;cases h4
 refine mF<|ED tT qR H wn M fun b5 a w hb5 H=>kH H<|Rm M ?_;intro a H
 by_cases hr0:rows=[]
 ·have hn0:n=0:=by rw[hn,hr0];rfl
  subst hn0;exact Dn tT qR H wn M M (eP _) M (bZ K1 M (LR results225 M fun H=>H.rt (by rw[hr0];exact av.nT M (by simp[maxLen]))))
 obtain⟨b,o,xs,rfl,hxl,hxc,hx1,gK⟩:=hx hr0;refine lW (Li:=[]) (Lo:=[_]) (news:=xs) tT qR M M H wn M M bT.empty hxl (fun j u hj=>H.hp.aJ<|hxc j u hj) hx1 O O M ?_;intro v7 Lo a w hrow H;obtain⟨G',hm,hrep,H⟩:=H.qy hrow (rows:=rows) O (by simpa using gK)
 try clear hG
 obtain⟨G2,hG2⟩:∃g,g=G':=⟨_,M⟩;subst hG2;exact kH H<|bZ K1 M<|LR results225 M fun H=>H.rt hrep
theorem avP(G:GH)(w0:World)(hG:Hold G w0)(rows:List (List Dat))(A:Option Addr)(n c:Nat)(hv:av G (.sl 2 rows) (.slice A n c))(hz:rows.length<=4294967296) :
  Calls prog 226 #[.slice A n c] w0 (bD w0 G fun v G'=>av G' (.sl 2 rows) v):=by
 obtain⟨hn,hc1,hc2,hnil,hx⟩:=hv.cells;refine eN [(0,_)] func226 M ntmps226 M M hG<|SR fun _ K1=>ak K1 M<|SQ fun _ K2=>SR fun _ K3=>Rm M fun a H=>EF uM H wn M M fun a H=>K3 _ _<|jU H M ?_ ?_
 ·intro h4;exact kP H (SR fun _ K1=>ak K1 M (LR results226 M fun H=>H.rt (by rw[hnil (by simpa using h4)];exact av.nT M (by simp[maxLen]))))
 intro h4;refine fU<|K2 _ _<|bU<|fun _ K1=>?_
 have hA:¬A=none:=by intro e;rw[e]at h4;cases h4
 refine mF<|ED uM vZ H wn M fun b5 a w hb5 H=>kH H<|Rm M ?_;intro a H
 by_cases hr0:rows=[]
 ·have hn0:n=0:=by rw[hn,hr0];rfl
  subst hn0;exact Dn uM vZ H wn M M (eP _) M (bZ K1 M (LR results226 M fun H=>H.rt (by rw[hr0];exact av.nT M (by simp[maxLen]))))
 obtain⟨b,o,xs,rfl,hxl,hxc,hx1,gK⟩:=hx hr0;refine lW (Li:=[]) (Lo:=[_]) (news:=xs) uM vZ M M H wn M M bT.empty hxl (fun j u hj=>H.hp.aJ<|hxc j u hj) hx1 O O M ?_;intro v7 Lo a w hrow H;obtain⟨G',hm,hrep,H⟩:=H.qy hrow (rows:=rows) O (by simpa using gK)
 try clear hG
 obtain⟨G2,hG2⟩:∃g,g=G':=⟨_,M⟩;subst hG2;exact kH H<|bZ K1 M<|LR results226 M fun H=>H.rt hrep
theorem avU(G:GH)(w0:World)(hG:Hold G w0)(rows:List (List Dat))(A:Option Addr)(n c:Nat)(hv:av G (.sl 4 rows) (.slice A n c))(hz:rows.length<=4294967296) :
  Calls prog 227 #[.slice A n c] w0 (bD w0 G fun v G'=>av G' (.sl 4 rows) v):=by
 obtain⟨hn,hc1,hc2,hnil,hx⟩:=hv.cells;refine eN [(0,_)] func227 M ntmps227 M M hG<|SR fun _ K1=>ak K1 M<|SQ fun _ K2=>SR fun _ K3=>Rm M fun a H=>EF wZ H wn M M fun a H=>K3 _ _<|jU H M ?_ ?_
 ·intro h4;exact kP H (SR fun _ K1=>ak K1 M (LR results227 M fun H=>H.rt (by rw[hnil (by simpa using h4)];exact av.nT M (by simp[maxLen]))))
 intro h4;refine fU<|K2 _ _<|bU<|fun _ K1=>?_
 have hA:¬A=none:=by intro e;rw[e]at h4;cases h4
 refine mF<|ED wZ wh H wn M fun b5 a w hb5 H=>kH H<|Rm M ?_;intro a H
 by_cases hr0:rows=[]
 ·have hn0:n=0:=by rw[hn,hr0];rfl
  subst hn0;exact Dn wZ wh H wn M M (eP _) M (bZ K1 M (LR results227 M fun H=>H.rt (by rw[hr0];exact av.nT M (by simp[maxLen]))))
 obtain⟨b,o,xs,rfl,hxl,hxc,hx1,gK⟩:=hx hr0;refine lW (Li:=[]) (Lo:=[_]) (news:=xs) wZ wh M M H wn M M bT.empty hxl (fun j u hj=>H.hp.aJ<|hxc j u hj) hx1 O O M ?_;intro v7 Lo a w hrow H;obtain⟨G',hm,hrep,H⟩:=H.qy hrow (rows:=rows) O (by simpa using gK)
 try clear hG
 obtain⟨G2,hG2⟩:∃g,g=G':=⟨_,M⟩;subst hG2;exact kH H<|bZ K1 M<|LR results227 M fun H=>H.rt hrep
theorem auu {p:Prop} (h:p:=by
 exact kH H (Rf xP M fun _ H=>fin H iJ M)):p:=h
theorem ZK {p:Prop} (h:p:=by
 refine dN [] M trivial V uE M M ?_;intro aZ a w G1 hG HT H fin;exact auu):p:=h
theorem Za {p:Prop} (h:p:=by
 clear H;rintro v10 sN a w Am qI H;exact fin H qI (Am)):p:=h
theorem PY(G:GH)(w0:World)(hG:Hold G w0)(h:fI)(pA dA yA:Option Addr)(pn pc dn dc yn yc:Nat)(hv:kr G h (.slice pA pn pc) (.slice dA dn dc) (.slice yA yn yc))(hz:oF h<=4294967296) :
  Calls prog 168 #[.agg #[.slice pA pn pc,vi h.marks.ins,vi h.marks.move,.slice dA dn dc,.slice yA yn yc]] w0 (bD w0 G fun v G'=>∃p d l,v=.agg #[p,vi h.marks.ins,vi h.marks.move,d,l]∧kr G' h p d l):=by
 have he:=Sy h;have h1:=vB<|h.props.map jy.dat;have h2:=vB<|h.marks.dQ.map kS.dat;have h3:=vB<|h.marks.layers.map ku.dat;refine eN [(0,_)] func168 M ntmps168 M M hG fun a H=>dw<|fun _ K1=>eD (cs:=[_,_,_,_,_]) H wn M M M fun b1 a w hb1 H=>dK oC H wn M fun b2 a w hb2 H=>K1 _ _<|kP H<|SR fun _ K1=>aV JO Dy 1 M M fun a H=>s_call akb H wn M (ajb _ _ H.ro _ _ _ _ hv.props O) M ?_;rintro v5 G5 a w wO hm5 H;obtain⟨A5,n5,c5,rfl⟩:=wO.form;refine kH H<|Rf JO M fun a H=>bH Dy 1 (vs:=[_]) H wn M fun w H=>K1 _ _<|bU<|fun _ K1=>?_;obtain⟨hvp,hvd,hvy⟩:=hv.mono hm5;clear hv
 have uE:yG (fun(cu:Nat)(v:aj)(G:GH)=>match cu with|0=>v=(aK b1 1)|1=>v=(aK b1 3)|2=>v=.slice dA dn dc|3=>av G (.sl 2<|h.marks.dQ.map kS.dat) v|4=>v=(aK b1 1)|5=>v=(aK b1 4)|6=>v=.slice yA yn yc|7=>av G (.sl 4<|h.marks.layers.map ku.dat) v|8=>v=(aK b1 1)|9=>v=(aK b1 3)|_=>True):=by intro cu v G G' hm h;(iterate 14 (rcases cu with _|cu;(first|exact h|exact av.mono hm h)));exact trivial
 refine yM (hmx) [[],[0],[0,1],[0,1,2],[],[4],[4,5],ra 0 7,ra 0 7,ra 0 7++[8],ra 0 10,ra 0 11,ra 0 12,ra 0 13] (ra 10 4) V V _ uE H ?_ ?_
 ·clear H;refine aD ?_ ?_ ?_ ?_<|aD ?_ ?_ ?_ ?_<|aD ?_ ?_ (bX M) (bX M)<|bE (bX M)<|bE (bX M) dz
  ·exact ZK
  ·exact dN [(0,7,_)] M ⟨fun _ _ h=>h,aC⟩ V uE M M fun aZ a w G1 hG HT H fin=>kH H<|Rf Bn M fun _ H=>fin H iJ M
  ·exact dN [(1,8,_)] M ⟨fun _ _ h=>h,aC⟩ V uE M M fun aZ a w G1 hG HT H fin=>kH H<|Ro BR 1 M fun _ H=>fin H iJ M
  ·exact dN [(2,9,_)] M ⟨fun _ _ h=>h,aC⟩ V uE M M fun aZ a w G1 hG HT H fin=>s_call ays H wn M (avP _ _ H.ro _ _ _ _ (hvd.mono hG) O) M Za
  ·exact ZK
  ·exact dN [(4,11,_)] M ⟨fun _ _ h=>h,aC⟩ V uE M M fun aZ a w G1 hG HT H fin=>kH H<|Rf Hz M fun _ H=>fin H iJ M
  ·exact dN [(5,12,_)] M ⟨fun _ _ h=>h,aC⟩ V uE M M fun aZ a w G1 hG HT H fin=>kH H<|Ro IV 1 M fun _ H=>fin H iJ M
  ·refine dN [(6,13,_)] M ⟨fun _ _ h=>h,aC⟩ V uE M M fun aZ a w G1 hG HT H fin=>s_call ayt H wn M (avU _ _ H.ro _ _ _ _ (hvy.mono hG) O) M ?_;rintro v14 DR a w zi J2 H;exact fin H J2<|zi
  ·exact ZK
  exact dN [(8,15,_)] M ⟨fun _ _ h=>h,aC⟩ V uE M M fun aZ a w G1 hG HT H fin=>kH H<|Rf Bn M fun _ H=>fin H iJ M
 clear H;intro a w G FL H hv;obtain⟨u10,Rx,Am⟩:=hv 3 10 Z M;(try dsimp only at Am);obtain⟨A10,n10,c10,rfl⟩:=Am.form;have H:=H.fT Rx;obtain⟨u14,Ry,zi⟩:=hv 7 14 Z M;(try dsimp only at zi);obtain⟨XF,n14,c14,rfl⟩:=zi.form;have H:=H.fT Ry;have H:=H.aQ (hv 9 16 M M) M;clear hv;refine bH BR 1 (vs:=[_]) H wn M fun w H=>kH H<|Rf xP M<|Rf Hz M fun a H=>bH IV 1 (vs:=[_]) H wn M fun w H=>aI ⟨M,K1 _ _<|dw<|fun _ K1=>aY oC (cs:=[_,_,_,_,_]) H wn M M (H.hp.dB 1 M M) M fun a H=>bH oC 0 (vs:=[_,_,_,_,_]) H wn M fun w H=>K1 _ _<|eH ((leave1 H results168 (.cons (vk oC (cs:=[_,_,_,_,_]) H M M<|H.hp.dB 0 M M) .nil) ?_).1)⟩;exact H.rt ⟨_,_,_,M,wO.mono FL,Am,zi⟩
theorem yj{G:GH}{w:World}(h:Hold G w):fZ G [] w:=⟨h,fun _ h=>(by cases h),fun _ h=>(by cases h),List.Pairwise.nil⟩
theorem agb {p:Prop} (h:p:=by
 exact ⟨none,0,by simp,by simp,by simp [maxLen],fun h=>absurd M h⟩):p:=h
theorem agW {p:Prop} (h:p:=by
 refine hp1.ret ?_;have:rows=[]:=List.eq_nil_of_length_eq_zero O;subst this
 simp only[av]
 exact agb):p:=h
theorem ME{P:Program}{f:FuncId}{args:Array aj}{w0:World}{G:GH}{e sz n:Nat}{rows:List (List Dat)}(hG:Hold G w0)(h:Calls P f args w0 (fG w0 G [] fun u G' L'=>∃xs,bT e sz u n xs L'∧bR G' sz rows xs))(hl:rows.length=n) :
  Calls P f args w0 (bD w0 G fun u G'=>av G' (.sl sz rows) u):=by
 intro cs;obtain⟨e1,w',fr,⟨v,G',L',rfl,hch,xs,hrow,gK⟩,h2,h3,h4⟩:=h cs;have hp0:Hp w0 (fun k=>k<w0.heap.size) G G ([]++[]) w0:=⟨M,M,M,eP _,fun _ h=>h,fun _ _=>rfl,hG,fun _ _ h=>h,fun _ _ h=>.inl h,fun _ h=>(by cases h),fun _ h=>(by cases h),fun _ h=>(by cases h),List.Pairwise.nil⟩;have hp1:=hp0.change hch;rw[fQ]at hp1;refine⟨_,w',fr,?_,h2,h3,h4⟩
 rcases hrow.2 with⟨rfl,h5,rfl⟩|⟨b,cap,cur,rfl,rfl,h5,h6,h7,h8⟩
 ·exact agW
 have hn:=hp1.vV (b,.cells cur e (0,0)) (by simp);exact(hp1.giveUp 0 M).ret<|av.uK (GH.Jm G' b _) hl h5 h6 h8<|gK.mono fun k o h=>GH.Md G' hn k o h
def ES(fv:aj)(w0:World)(G:GH)(d d':List Dat):Prop:=∀(G1:GH)(w1:World)(cs:List aj),(∀b o,G b=some o->G1 b=some o)->Hold G1 w1->bg G1 d cs->
 uN prog fv [.agg cs.toArray] w1 (bD w1 G1 fun u G'=>∃cs',u=.agg cs'.toArray∧bg G' d' cs')
abbrev LG(fv:aj)(w0:World)(G:GH)(d:List Dat):Prop:=ES fv w0 G d d
theorem TA {p:Prop} (h:p:=by
 exact ⟨O,bT.nil,by simpa using bR.nil,fun _ _ h=>h⟩):p:=h
theorem auC {p:Prop} (h:p:=by
 exact (gK.mono xX).snoc (by simpa using dL) (by rw [Bu];rfl)):p:=h
theorem Y2 {p:Prop} (h:p:=by
 exact H.hp.gX ⟨_,hrw,by rw [jX (by simp)] at gK;exact gK⟩):p:=h
theorem Zu {p:Prop} (h:p:=by
 clear H;intro v19 X5 a w Iq H;refine kH H (bZ K1 M (SC (Rd M (Rm M ?_))));clear H K1;intro a H;refine aI ?_;refine dO ((k+1,v19,xs++Fv,X5,DT)) (by exact(H.dR (Pl:=[_,_]) (dH:=[]) [] Z M).sub ⟨M,M,M,M,M,aC⟩) ?_
 (try dsimp only);refine ⟨O,Iq,?_,fun b o h=>xX b o (hgm b o h)⟩;rw [ji (by simpa using hk2)];exact auC):p:=h
theorem ajD(φ:ah->ah)(G:GH)(w0:World)(hO:fZ G [] w0)(l:List ah)(v fv:aj)(hv:av G (.sl 11<|l.map ah.dat) v)(hz:l.length<=4294967296)(hf:∀x∈l,ES fv w0 G x.dat (φ x).dat) :
  Calls prog 199 #[v,fv] w0 (fG w0 G [] fun u G' L'=>∃xs,bT 118 11 u l.length xs L'∧bR G' 11 (l.map fun x=>(φ x).dat) xs):=by
 obtain⟨A,c,rfl,hc1,hc2,hg⟩:=hv.slice
 have hml:4294967297<=maxLen:=by decide
 rw[bM]at *;refine iY (N:=22) (T:=[(0,_),(1,_)]) func199 M ntmps199 M M hO ?_;intro a H;refine kP H<|SR fun _ K1=>ak K1 M<|SR fun _ K2=>ak K2 M<|SQ fun _ K3=>SR fun _ K4=>Rm M<|Rl dM M<|Rm M<|Kz K4<|SB ?_;clear H K1 K2 K4;intro a H;skip;refine dY (ι:=Nat×aj×List aj×OL×GH) (Tc:=[(1,_),(8,_),(9,_)]) (Lc:=[]) (fun gh=>[(5,gh.2.1),(10,vi gh.1)]) (fun gh=>[]++gh.2.2.2.1) (fun gh=>gh.2.2.2.2) (fun gh=>gh.1<=l.length∧bT 118 11 gh.2.1 gh.1 gh.2.2.1 gh.2.2.2.1∧bR gh.2.2.2.2 11 ((l.map fun x=>(φ x).dat).take gh.1) gh.2.2.1∧(∀b o,G b=some o->gh.2.2.2.2 b=some o)) (fun gh=>l.length-gh.1) ((0,.slice none 0 0,[],[],G)) (by exact H.sub ⟨M,M,M,M,M,aC⟩) ?_ ?_
 ·exact TA
 clear H;rintro⟨k,v,xs,Lo,g⟩ a w hI H;dsimp only at hI H;obtain⟨hk,hrw,gK,hgm⟩:=hI;dsimp only[lca,bq]at H;refine kP H (SR fun _ K1=>Rc M<|Kz K1<|SQ fun _ K2=>Cd M ?_ ?_)<;>clear H K1
 ·intro h11 a H
  try have pR:=dT h11
  have hk2:k<l.length:=by omega
  obtain⟨b,o,cs,rfl,hcl,hrow,hrep⟩:=hg k l[k].dat (by simp[hk2]);obtain⟨pA,pn,pc,dA,dn,dc,yA,yn,yc,fA,fn,fc,rA,rn,rc,rfl,-⟩:=hrep.item;replace hrow:=fun j u hj=>aH hgm<|hrow j u hj;refine kP H<|Kc K2<|SQ fun _ K1=>SB<|SR fun _ K4=>Ri dM bL M M ?_;clear H K2;intro a H;refine aY bL (cs:=[_,_,_,_,_,_,_,_,_,_,_]) H wn M M (fun j v hj=>H.hp.aJ<|hrow j v hj) M ?_;clear H;intro a H;refine dK bL H wn M ?_;clear H;intro b7 a w Bt H;refine bH bL 0 (vs:=[_,_,_,_,_,_,_,_,_,_,_]) H wn M ?_;clear H;intro w H;refine K4 _ _ ?_;clear K4;refine kP H<|SC<|Rm M<|Rm M ?_;clear H;intro a H;refine aY bL (cs:=[_,_,_,_,_,_,_,_,_,_,_]) H wn M M (H.hp.dB 0 M M) M ?_;clear H;intro a H;refine ow H wn M M (hf _ (ig hk2) _ _ _ hgm H.ro<|hrep.mono hgm) M ?_;clear H;rintro v17 DT a w ⟨Fv,rfl,dL⟩ xX H;obtain⟨cs,hcs⟩:∃cs,cs=Fv:=⟨_,M⟩;obtain⟨pA,pn,pc,dA,dn,dc,yA,yn,yc,fA,fn,fc,rA,rn,rc,Bu,-⟩:=dL.item;rw[Bu]at H;refine iT dM bL [_,_,_,_,_,_,_,_,_,_,_] [_,_,_,_,_,_,_,_,_,_,_] H wn M M M M M (by intro i q h;match i,h with|0,h=>exact h|n+1,h=>simp at h) M M ?_;clear H;intro b18 a w Vg H;refine lW (Li:=[_,_]) (Lo:=Lo) (news:=Fv) dM bL M M H wn M M hrw (by rw[Bu];rfl) (by rw[Bu];exact H.hp.dB 0 M M) dL.one O O M ?_;exact Zu
 intro h11 a H
 try have pR:=dF h11
 refine dS ?_;refine K3 _ _ ?_;clear K3;refine kP H<|SR fun _ K1=>Rm M<|ak K1 M ?_;clear H K1;intro a H;refine lr H results199 M ?_
 obtain rfl:k=l.length:=by omega
 exact Y2
theorem awU(φ:ah->ah)(G:GH)(w0:World)(hG:Hold G w0)(l:List ah)(v fv:aj)(hv:av G (.sl 11<|l.map ah.dat) v)(hz:l.length<=4294967296)(hf:∀x∈l,ES fv w0 G x.dat (φ x).dat) :
  Calls prog 199 #[v,fv] w0 (bD w0 G fun u G'=>av G' (.sl 11<|l.map fun x=>(φ x).dat) u):=ME hG (ajD φ G w0 (yj hG) l v fv hv hz hf) (by simp)
theorem awR(G:GH)(w0:World)(hG:Hold G w0)(l:List ah)(v fv:aj)(hv:av G (.sl 11<|l.map ah.dat) v)(hz:l.length<=4294967296)(hf:∀x∈l,LG fv w0 G x.dat) :
  Calls prog 199 #[v,fv] w0 (bD w0 G fun u G'=>av G' (.sl 11<|l.map ah.dat) u):=awU (fun x=>x) G w0 hG l v fv hv hz hf
theorem awT(φ:aN->aN)(G:GH)(w0:World)(hO:fZ G [] w0)(l:List aN)(v fv:aj)(hv:av G (.sl 6<|l.map aN.dat) v)(hz:l.length<=4294967296)(hf:∀x∈l,ES fv w0 G x.dat (φ x).dat) :
  Calls prog 170 #[v,fv] w0 (fG w0 G [] fun u G' L'=>∃xs,bT 121 6 u l.length xs L'∧bR G' 6 (l.map fun x=>(φ x).dat) xs):=by
 obtain⟨A,c,rfl,hc1,hc2,hg⟩:=hv.slice
 have hml:4294967297<=maxLen:=by decide
 rw[bM]at *;refine iY (N:=22) (T:=[(0,_),(1,_)]) func170 M ntmps170 M M hO ?_;intro a H;refine kP H<|SR fun _ K1=>ak K1 M<|SR fun _ K2=>ak K2 M<|SQ fun _ K3=>SR fun _ K4=>Rm M<|Rl jI M<|Rm M<|Kz K4<|SB ?_;clear H K1 K2 K4;intro a H;skip;refine dY (ι:=Nat×aj×List aj×OL×GH) (Tc:=[(1,_),(8,_),(9,_)]) (Lc:=[]) (fun gh=>[(5,gh.2.1),(10,vi gh.1)]) (fun gh=>[]++gh.2.2.2.1) (fun gh=>gh.2.2.2.2) (fun gh=>gh.1<=l.length∧bT 121 6 gh.2.1 gh.1 gh.2.2.1 gh.2.2.2.1∧bR gh.2.2.2.2 6 ((l.map fun x=>(φ x).dat).take gh.1) gh.2.2.1∧(∀b o,G b=some o->gh.2.2.2.2 b=some o)) (fun gh=>l.length-gh.1) ((0,.slice none 0 0,[],[],G)) (by exact H.sub ⟨M,M,M,M,M,aC⟩) ?_ ?_
 ·exact TA
 clear H;rintro⟨k,v,xs,Lo,g⟩ a w hI H;dsimp only at hI H;obtain⟨hk,hrw,gK,hgm⟩:=hI;dsimp only[lca,bq]at H;refine kP H (SR fun _ K1=>Rc M<|Kz K1<|SQ fun _ K2=>Cd M ?_ ?_)<;>clear H K1
 ·intro h11 a H
  try have pR:=dT h11
  have hk2:k<l.length:=by omega
  obtain⟨b,o,cs,rfl,hcl,hrow,hrep⟩:=hg k l[k].dat (by simp[hk2]);obtain⟨pA,pn,pc,dA,dn,dc,yA,yn,yc,fA,fn,fc,rfl,-⟩:=hrep.row;replace hrow:=fun j u hj=>aH hgm<|hrow j u hj;refine kP H<|Kc K2<|SQ fun _ K1=>SB<|SR fun _ K4=>Ri jI iC M M ?_;clear H K2;intro a H;refine aY iC (cs:=[_,_,_,_,_,_]) H wn M M (fun j v hj=>H.hp.aJ<|hrow j v hj) M ?_;clear H;intro a H;refine dK iC H wn M ?_;clear H;intro b7 a w Bt H;refine bH iC 0 (vs:=[_,_,_,_,_,_]) H wn M ?_;clear H;intro w H;refine K4 _ _ ?_;clear K4;refine kP H<|SC<|Rm M<|Rm M ?_;clear H;intro a H;refine aY iC (cs:=[_,_,_,_,_,_]) H wn M M (H.hp.dB 0 M M) M ?_;clear H;intro a H;refine ow H wn M M (hf _ (ig hk2) _ _ _ hgm H.ro<|hrep.mono hgm) M ?_;clear H;rintro v17 DT a w ⟨Fv,rfl,dL⟩ xX H;obtain⟨cs,hcs⟩:∃cs,cs=Fv:=⟨_,M⟩;obtain⟨pA,pn,pc,dA,dn,dc,yA,yn,yc,fA,fn,fc,Bu,-⟩:=dL.row;rw[Bu]at H;refine iT jI iC [_,_,_,_,_,_] [_,_,_,_,_,_] H wn M M M M M (by intro i q h;match i,h with|0,h=>exact h|n+1,h=>simp at h) M M ?_;clear H;intro b18 a w Vg H;refine lW (Li:=[_,_]) (Lo:=Lo) (news:=Fv) jI iC M M H wn M M hrw (by rw[Bu];rfl) (by rw[Bu];exact H.hp.dB 0 M M) dL.one O O M ?_;exact Zu
 intro h11 a H
 try have pR:=dF h11
 refine dS ?_;refine K3 _ _ ?_;clear K3;refine kP H<|SR fun _ K1=>Rm M<|ak K1 M ?_;clear H K1;intro a H;refine lr H results170 M ?_
 obtain rfl:k=l.length:=by omega
 exact Y2
theorem ajG(φ:aN->aN)(G:GH)(w0:World)(hG:Hold G w0)(l:List aN)(v fv:aj)(hv:av G (.sl 6<|l.map aN.dat) v)(hz:l.length<=4294967296)(hf:∀x∈l,ES fv w0 G x.dat (φ x).dat) :
  Calls prog 170 #[v,fv] w0 (bD w0 G fun u G'=>av G' (.sl 6<|l.map fun x=>(φ x).dat) u):=ME hG (awT φ G w0 (yj hG) l v fv hv hz hf) (by simp)
theorem ajE(G:GH)(w0:World)(hG:Hold G w0)(l:List aN)(v fv:aj)(hv:av G (.sl 6<|l.map aN.dat) v)(hz:l.length<=4294967296)(hf:∀x∈l,LG fv w0 G x.dat) :
  Calls prog 170 #[v,fv] w0 (bD w0 G fun u G'=>av G' (.sl 6<|l.map aN.dat) u):=ajG (fun x=>x) G w0 hG l v fv hv hz hf
theorem awS(φ:aP->aP)(G:GH)(w0:World)(hO:fZ G [] w0)(l:List aP)(v fv:aj)(hv:av G (.sl 7<|l.map aP.dat) v)(hz:l.length<=4294967296)(hf:∀x∈l,ES fv w0 G x.dat (φ x).dat) :
  Calls prog 228 #[v,fv] w0 (fG w0 G [] fun u G' L'=>∃xs,bT 124 7 u l.length xs L'∧bR G' 7 (l.map fun x=>(φ x).dat) xs):=by
 obtain⟨A,c,rfl,hc1,hc2,hg⟩:=hv.slice
 have hml:4294967297<=maxLen:=by decide
 rw[bM]at *;refine iY (N:=22) (T:=[(0,_),(1,_)]) func228 M ntmps228 M M hO ?_;intro a H;refine kP H<|SR fun _ K1=>ak K1 M<|SR fun _ K2=>ak K2 M<|SQ fun _ K3=>SR fun _ K4=>Rm M<|Rl ko M<|Rm M<|Kz K4<|SB ?_;clear H K1 K2 K4;intro a H;skip;refine dY (ι:=Nat×aj×List aj×OL×GH) (Tc:=[(1,_),(8,_),(9,_)]) (Lc:=[]) (fun gh=>[(5,gh.2.1),(10,vi gh.1)]) (fun gh=>[]++gh.2.2.2.1) (fun gh=>gh.2.2.2.2) (fun gh=>gh.1<=l.length∧bT 124 7 gh.2.1 gh.1 gh.2.2.1 gh.2.2.2.1∧bR gh.2.2.2.2 7 ((l.map fun x=>(φ x).dat).take gh.1) gh.2.2.1∧(∀b o,G b=some o->gh.2.2.2.2 b=some o)) (fun gh=>l.length-gh.1) ((0,.slice none 0 0,[],[],G)) (by exact H.sub ⟨M,M,M,M,M,aC⟩) ?_ ?_
 ·exact TA
 clear H;rintro⟨k,v,xs,Lo,g⟩ a w hI H;dsimp only at hI H;obtain⟨hk,hrw,gK,hgm⟩:=hI;dsimp only[lca,bq]at H;refine kP H (SR fun _ K1=>Rc M<|Kz K1<|SQ fun _ K2=>Cd M ?_ ?_)<;>clear H K1
 ·intro h11 a H
  try have pR:=dT h11
  have hk2:k<l.length:=by omega
  obtain⟨b,o,cs,rfl,hcl,hrow,hrep⟩:=hg k l[k].dat (by simp[hk2]);obtain⟨pA,pn,pc,dA,dn,dc,yA,yn,yc,fA,fn,fc,rfl,-⟩:=hrep.cell;replace hrow:=fun j u hj=>aH hgm<|hrow j u hj;refine kP H<|Kc K2<|SQ fun _ K1=>SB<|SR fun _ K4=>Ri ko iQ M M ?_;clear H K2;intro a H;refine aY iQ (cs:=[_,_,_,_,_,_,_]) H wn M M (fun j v hj=>H.hp.aJ<|hrow j v hj) M ?_;clear H;intro a H;refine dK iQ H wn M ?_;clear H;intro b7 a w Bt H;refine bH iQ 0 (vs:=[_,_,_,_,_,_,_]) H wn M ?_;clear H;intro w H;refine K4 _ _ ?_;clear K4;refine kP H<|SC<|Rm M<|Rm M ?_;clear H;intro a H;refine aY iQ (cs:=[_,_,_,_,_,_,_]) H wn M M (H.hp.dB 0 M M) M ?_;clear H;intro a H;refine ow H wn M M (hf _ (ig hk2) _ _ _ hgm H.ro<|hrep.mono hgm) M ?_;clear H;rintro v17 DT a w ⟨Fv,rfl,dL⟩ xX H;obtain⟨cs,hcs⟩:∃cs,cs=Fv:=⟨_,M⟩;obtain⟨pA,pn,pc,dA,dn,dc,yA,yn,yc,fA,fn,fc,Bu,-⟩:=dL.cell;rw[Bu]at H;refine iT ko iQ [_,_,_,_,_,_,_] [_,_,_,_,_,_,_] H wn M M M M M (by intro i q h;match i,h with|0,h=>exact h|n+1,h=>simp at h) M M ?_;clear H;intro b18 a w Vg H;refine lW (Li:=[_,_]) (Lo:=Lo) (news:=Fv) ko iQ M M H wn M M hrw (by rw[Bu];rfl) (by rw[Bu];exact H.hp.dB 0 M M) dL.one O O M ?_;exact Zu
 intro h11 a H
 try have pR:=dF h11
 refine dS ?_;refine K3 _ _ ?_;clear K3;refine kP H<|SR fun _ K1=>Rm M<|ak K1 M ?_;clear H K1;intro a H;refine lr H results228 M ?_
 obtain rfl:k=l.length:=by omega
 exact Y2
theorem ajF(φ:aP->aP)(G:GH)(w0:World)(hG:Hold G w0)(l:List aP)(v fv:aj)(hv:av G (.sl 7<|l.map aP.dat) v)(hz:l.length<=4294967296)(hf:∀x∈l,ES fv w0 G x.dat (φ x).dat) :
  Calls prog 228 #[v,fv] w0 (bD w0 G fun u G'=>av G' (.sl 7<|l.map fun x=>(φ x).dat) u):=ME hG (awS φ G w0 (yj hG) l v fv hv hz hf) (by simp)
theorem awQ(G:GH)(w0:World)(hG:Hold G w0)(l:List aP)(v fv:aj)(hv:av G (.sl 7<|l.map aP.dat) v)(hz:l.length<=4294967296)(hf:∀x∈l,LG fv w0 G x.dat) :
  Calls prog 228 #[v,fv] w0 (bD w0 G fun u G'=>av G' (.sl 7<|l.map aP.dat) u):=ajF (fun x=>x) G w0 hG l v fv hv hz hf
def I9(n:Nat):Prop:=∀(G:GH)(w0:World),Hold G w0->∀(l:List ah)(v:aj),av G (.sl 11 (l.map ah.dat)) v->aR l<n->
 Calls prog 140 #[v] w0 (bD w0 G fun u G'=>av G' (.sl 11 (l.map ah.dat)) u)
theorem auG {p:Prop} (h:p:=by
 exact kH H (Rf JN M fun _ H=>fin H iJ M)):p:=h
theorem Jv {p:Prop} (h:p:=by
 exact fin H iJ M):p:=h
theorem auh {p:Prop} (h:p:=by
 exact kH H (Rf Cr M fun _ H=>fin H iJ M)):p:=h
theorem afJ {p:Prop} (h:p:=by
 exact kH H (Ro eG 1 M fun _ H=>fin H iJ M)):p:=h
theorem jD {p:Prop} (h:p:=by
 clear H;intro a H;exact Jv):p:=h
theorem ahV {p:Prop} (h:p:=by
 refine dN [(3,6,_)] M ⟨fun _ _ h=>h,aC⟩ V iq M M ?_;intro aZ a w G1 hG HT H fin;refine s_call Qe H wn M (PY _ _ H.ro x.head _ _ _ _ _ _ _ _ _ (hh.mono hG) O) M ?_;clear H;rintro v7 G7 a w Kq tC H;exact fin H tC (Kq)):p:=h
theorem aiA {p:Prop} (h:p:=by
 refine dN [(0,3,_)] M ⟨fun _ _ h=>h,aC⟩ V iq M M ?_;intro aZ a w G1 hG HT H fin;exact kH H (Ro aF 1 M fun _ H=>fin H iJ M)):p:=h
theorem agH {p:Prop} (h:p:=by
 refine dN [] M trivial V iq M M ?_;intro aZ a w G1 hG HT H fin;exact kH H (Rf Qk M fun _ H=>fin H iJ M)):p:=h
theorem agM {p:Prop} (h:p:=by
 refine dN [(5,8,_)] M ⟨fun _ _ h=>h,aC⟩ V iq M M ?_;intro aZ a w G1 hG HT H fin;exact afJ):p:=h
theorem TN {p:Prop} (h:p:=by
 intro aZ a w G1 hG HT H fin;exact auh):p:=h
theorem TP {p:Prop} (h:p:=by
 intro aZ a w G1 hG HT H fin;exact auG):p:=h
theorem Zd {p:Prop} (h:p:=by
 refine aY oC (cs:=[_,_,_,_,_]) H wn M M (H.hp.dB 1 M M) M ?_;exact jD):p:=h
theorem ahE {p:Prop} (h:p:=by
 refine dN [(2,5,_)] M ⟨fun _ _ h=>h,aC⟩ V iq M M ?_;intro aZ a w G1 hG HT H fin;exact Zd):p:=h
theorem avO{n:Nat}(ih:I9 n)(hn:n<=4294967296)(G:GH)(w0:World)(hG:Hold G w0)(x:aP)(cs:List aj)(hv:bg G x.dat cs)(hz:bY x.dat<n+1) :
  Calls prog 242 #[.agg cs.toArray] w0 (bD w0 G fun u G'=>∃cs',u=.agg cs'.toArray∧bg G' x.dat cs'):=by
 have he:=AU x;obtain⟨pA,pn,pc,dA,dn,dc,yA,yn,yc,fA,fn,fc,rfl,hh,hf⟩:=hv.cell;refine eN [(0,_)] func242 M ntmps242 M M hG fun a H=>dw<|fun _ K1=>eD (cs:=[_,_,_,_,_,_,_]) H wn M M M fun b1 a w hb1 H=>dK iQ H wn M fun b2 a w hb2 H=>K1 _ _<|bU<|fun _ K1=>?_
 have iq:yG (fun(cu:Nat)(v:aj)(G:GH)=>match cu with|0=>v=(aK b1 0)|1=>v=vi x.id|2=>v=(aK b1 1)|3=>v=.agg #[.slice pA pn pc,vi x.head.marks.ins,vi x.head.marks.move,.slice dA dn dc,.slice yA yn yc]|4=>∃p d l,v=.agg #[p,vi x.head.marks.ins,vi x.head.marks.move,d,l]∧kr G x.head p d l|5=>v=(aK b1 6)|6=>v=.slice fA fn fc|7=>av G (.sl 11<|x.flow.map ah.dat) v|_=>True):=by intro cu v G G' hm h;(iterate 10 (rcases cu with _|cu;(first|exact h|exact let⟨p,d,l,h1,h2⟩:=h;⟨p,d,l,h1,h2.mono hm⟩|exact av.mono hm h)));exact trivial
 refine yM (hmx) [[],[0],[],[2],[2,3],[],[5],ra 2 5,ra 0 8,ra 0 9] [8,9] V V _ iq H ?_ ?_
 ·clear H;refine aD ?_ ?_ ?_ ?_<|aD ?_ ?_ ?_ ?_<|bE (bX M)<|bE (bX M) dz
  ·exact dN [] M trivial V iq M M TP
  ·exact aiA
  ·exact agH
  ·exact ahE
  ·exact ahV
  ·exact dN [] M trivial V iq M M TN
  ·exact agM
  exact dN [(6,9,_)] M ⟨fun _ _ h=>h,aC⟩ V iq M M fun aZ a w G1 hG HT H fin=>s_call Uv H wn M (ih _ _ H.ro x.flow _ (hf.mono hG) O) M Za
 clear H;intro a w G jL H hv;have H:=H.aQ (hv 1 4 M M) M;obtain⟨u7,hu7,Kq⟩:=hv 4 7 Z M;(try dsimp only at Kq);obtain⟨p7,d7,l7,rfl,FN⟩:=Kq;obtain⟨a1,a2,a3,rfl⟩:=FN.props.form;obtain⟨a4,a5,a6,rfl⟩:=FN.dQ.form;obtain⟨a7,a8,a9,rfl⟩:=FN.layers.form;have H:=H.fT hu7;obtain⟨u10,Rx,Am⟩:=hv 7 10 Z M;(try dsimp only at Am);obtain⟨A10,n10,c10,rfl⟩:=Am.form;have H:=H.fT Rx;clear hv;refine jM aqT [_,_,_,_,_,_,_] H wn M M M M fun a H=>bH iQ 0 (vs:=[_,_,_,_,_,_,_]) H wn M fun w H=>aI ⟨M,K1 _ _<|eH ((leave1 H results242 (.cons (vk iQ (cs:=[_,_,_,_,_,_,_]) H M M<|H.hp.dB 0 M M) .nil) ?_).1)⟩;exact H.rt ⟨_,M,bg.V7 FN Am⟩
theorem avN{n:Nat}(ih:I9 n)(hn:n<=4294967296){G:GH}{w0:World}(x:aP)(hz:bY x.dat<n+1):LG (.func (.func 242) #[] #[]) w0 G x.dat:=by
 intro G1 w1 cs hm1 hG1 hr;have h:=avO ih hn _ _ hG1 x cs hr hz;have h2:=kJ (P:=prog) (caps:=[]) (args:=[.agg cs.toArray]) ayF h;exact h2
theorem aun {p:Prop} (h:p:=by
 exact kH H (Rf rT M fun _ H=>fin H iJ M)):p:=h
theorem afR {p:Prop} (h:p:=by
 exact kH H (Ro qD 1 M fun _ H=>fin H iJ M)):p:=h
theorem Zy {p:Prop} (h:p:=by
 refine dN [(1,4,_)] M ⟨fun _ _ h=>h,aC⟩ V iq M M ?_;intro aZ a w G1 hG HT H fin;refine s_call Qe H wn M (PY _ _ H.ro x.head _ _ _ _ _ _ _ _ _ (hh.mono hG) O) M ?_;clear H;rintro v5 G5 a w wO CK H;exact fin H CK (wO)):p:=h
theorem agI {p:Prop} (h:p:=by
 refine dN [] M trivial V iq M M ?_;intro aZ a w G1 hG HT H fin;exact kH H (Rf Qj M fun _ H=>fin H iJ M)):p:=h
theorem Pp {p:Prop} (h:p:=by
 intro aZ a w G1 hG HT H fin;exact aun):p:=h
theorem agN {p:Prop} (h:p:=by
 refine dN [(3,6,_)] M ⟨fun _ _ h=>h,aC⟩ V iq M M ?_;intro aZ a w G1 hG HT H fin;exact afR):p:=h
theorem Zb {p:Prop} (h:p:=by
 clear H;rintro v8 G8 a w qz uX H;exact fin H uX (qz)):p:=h
theorem Zq {p:Prop} (h:p:=by
 refine dN [(0,3,_)] M ⟨fun _ _ h=>h,aC⟩ V iq M M ?_;intro aZ a w G1 hG HT H fin;exact Zd):p:=h
theorem awe{n:Nat}(ih:I9 n)(hn:n<=4294967296)(G:GH)(w0:World)(hG:Hold G w0)(x:aN)(cs:List aj)(hv:bg G x.dat cs)(hz:bY x.dat<n+1) :
  Calls prog 201 #[.agg cs.toArray] w0 (bD w0 G fun u G'=>∃cs',u=.agg cs'.toArray∧bg G' x.dat cs'):=by
 have he:=zC x;have hl:=EP x.cells;obtain⟨pA,pn,pc,dA,dn,dc,yA,yn,yc,fA,fn,fc,rfl,hh,hf⟩:=hv.row;refine eN [(0,_)] func201 M ntmps201 M M hG fun a H=>dw<|fun _ K1=>eD (cs:=[_,_,_,_,_,_]) H wn M M M fun b1 a w hb1 H=>dK iC H wn M fun b2 a w hb2 H=>K1 _ _<|bU<|fun _ K1=>?_
 have iq:yG (fun(cu:Nat)(v:aj)(G:GH)=>match cu with|0=>v=(aK b1 0)|1=>v=.agg #[.slice pA pn pc,vi x.head.marks.ins,vi x.head.marks.move,.slice dA dn dc,.slice yA yn yc]|2=>∃p d l,v=.agg #[p,vi x.head.marks.ins,vi x.head.marks.move,d,l]∧kr G x.head p d l|3=>v=(aK b1 5)|4=>v=.slice fA fn fc|5=>av G (.sl 7<|x.cells.map aP.dat) v|_=>True):=by intro cu v G G' hm h;(iterate 8 (rcases cu with _|cu;(first|exact h|exact let⟨p,d,l,h1,h2⟩:=h;⟨p,d,l,h1,h2.mono hm⟩|exact av.mono hm h)));exact trivial
 refine yM (hmx) [[],[0],[0,1],[],[3],ra 0 5,ra 0 6,ra 0 7] [6,7] V V _ iq H ?_ ?_
 ·clear H;refine aD ?_ ?_ ?_ ?_<|aD ?_ ?_ (bX M) (bX M) dz
  ·exact agI
  ·exact Zq
  ·exact Zy
  ·exact dN [] M trivial V iq M M Pp
  ·exact agN
  exact dN [(4,7,_)] M ⟨fun _ _ h=>h,aC⟩ V iq M M fun aZ a w G1 hG HT H fin=>s_call akc H wn M (awQ _ _ H.ro x.cells _ _ (hf.mono hG) O<|fun y hy=>avN ih hn y (by have:=asw hy;omega)) rfl Zb
 clear H;intro a w G jL H hv;obtain⟨u5,Kw,wO⟩:=hv 2 5 Z M;(try dsimp only at wO);obtain⟨p5,d5,l5,rfl,yZ⟩:=wO;obtain⟨a1,a2,a3,rfl⟩:=yZ.props.form;obtain⟨a4,a5,a6,rfl⟩:=yZ.dQ.form;obtain⟨a7,a8,a9,rfl⟩:=yZ.layers.form;have H:=H.fT Kw;obtain⟨u8,CZ,qz⟩:=hv 5 8 Z M;(try dsimp only at qz);obtain⟨A8,n8,c8,rfl⟩:=qz.form;have H:=H.fT CZ;clear hv;refine jM aqS [_,_,_,_,_,_] H wn M M M M fun a H=>bH iC 0 (vs:=[_,_,_,_,_,_]) H wn M fun w H=>aI ⟨M,K1 _ _<|eH ((leave1 H results201 (.cons (vk iC (cs:=[_,_,_,_,_,_]) H M M<|H.hp.dB 0 M M) .nil) ?_).1)⟩;exact H.rt ⟨_,M,bg.V8 yZ qz⟩
theorem awd{n:Nat}(ih:I9 n)(hn:n<=4294967296){G:GH}{w0:World}(x:aN)(hz:bY x.dat<n+1):LG (.func (.func 201) #[] #[]) w0 G x.dat:=by
 intro G1 w1 cs hm1 hG1 hr;have h:=awe ih hn _ _ hG1 x cs hr hz;have h2:=kJ (P:=prog) (caps:=[]) (args:=[.agg cs.toArray]) aya h;exact h2
theorem afS {p:Prop} (h:p:=by
 exact kH H (Rf mZ M fun _ H=>fin H iJ M)):p:=h
theorem ahh {p:Prop} (h:p:=by
 intro aZ a w G1 hG HT H fin;exact kH H (Rf uU M fun _ H=>fin H iJ M)):p:=h
theorem avM{n:Nat}(ih:I9 n)(hn:n<=4294967296)(G:GH)(w0:World)(hG:Hold G w0)(x:ah)(cs:List aj)(hv:bg G x.dat cs)(hz:bY x.dat<n+1) :
  Calls prog 200 #[.agg cs.toArray] w0 (bD w0 G fun u G'=>∃cs',u=.agg cs'.toArray∧bg G' x.dat cs'):=by
 have he:=lY x;have hl:=ER x.rows;obtain⟨pA,pn,pc,dA,dn,dc,yA,yn,yc,fA,fn,fc,rA,rn,rc,rfl,hh,hf,hr⟩:=hv.item;refine eN [(0,_)] func200 M ntmps200 M M hG fun a H=>dw<|fun _ K1=>eD (cs:=[_,_,_,_,_,_,_,_,_,_,_]) H wn M M M fun b1 a w hb1 H=>dK bL H wn M fun b2 a w hb2 H=>K1 _ _<|bU<|fun _ K1=>?_
 have iq:yG (fun(cu:Nat)(v:aj)(G:GH)=>match cu with|0=>v=(aK b1 4)|1=>v=.agg #[.slice pA pn pc,vi x.head.marks.ins,vi x.head.marks.move,.slice dA dn dc,.slice yA yn yc]|2=>∃p d l,v=.agg #[p,vi x.head.marks.ins,vi x.head.marks.move,d,l]∧kr G x.head p d l|3=>v=(aK b1 9)|4=>v=.slice fA fn fc|5=>av G (.sl 11<|x.flow.map ah.dat) v|6=>v=(aK b1 10)|7=>v=.slice rA rn rc|8=>av G (.sl 6<|x.rows.map aN.dat) v|9=>v=(aK b1 4)|_=>True):=by intro cu v G G' hm h;(iterate 15 (rcases cu with _|cu;(first|exact h|exact let⟨p,d,l,h1,h2⟩:=h;⟨p,d,l,h1,h2.mono hm⟩|exact av.mono hm h)));exact trivial
 refine yM (hmx) [[],[0],[0,1],[],[3],ra 0 5,[],[6],ra 0 8,[0,1,2,3,4,6,7],ra 0 10,ra 0 11,ra 0 12,ra 0 13,ra 0 14] (ra 10 5) V V _ iq H ?_ ?_
 ·clear H;refine aD ?_ ?_ ?_ ?_<|aD ?_ ?_ ?_ ?_<|aD ?_ ?_ (bX M) (bX M)<|bE (bX M)<|bE (bX M)<|bE (bX M) dz
  ·exact dN [] M trivial V iq M M fun aZ a w G1 hG HT H fin=>kH H<|Rf vG M fun _ H=>fin H iJ M
  ·exact Zq
  ·exact Zy
  ·exact dN [] M trivial V iq M M ahh
  ·exact dN [(3,6,_)] M ⟨fun _ _ h=>h,aC⟩ V iq M M fun aZ a w G1 hG HT H fin=>afJ
  ·exact dN [(4,7,_)] M ⟨fun _ _ h=>h,aC⟩ V iq M M fun aZ a w G1 hG HT H fin=>s_call Uv H wn M (ih _ _ H.ro x.flow _ (hf.mono hG) O) M Zb
  ·exact dN [] M trivial V iq M M fun aZ a w G1 hG HT H fin=>afS
  ·exact dN [(6,9,_)] M ⟨fun _ _ h=>h,aC⟩ V iq M M fun aZ a w G1 hG HT H fin=>kH H<|Ro lX 1 M fun _ H=>fin H iJ M
  ·refine dN [(7,10,_)] M ⟨fun _ _ h=>h,aC⟩ V iq M M fun aZ a w G1 hG HT H fin=>s_call aap H wn M (ajE _ _ H.ro x.rows _ _ (hr.mono hG) O<|fun y hy=>awd ih hn y (by have:=asD hy;omega)) rfl ?_;rintro v11 DN a w rX nZ H;exact fin H nZ<|rX
  exact dN [] M trivial V iq M M fun aZ a w G1 hG HT H fin=>kH H<|Rf vG M fun _ H=>fin H iJ M
 clear H;intro a w G jL H hv;obtain⟨u5,Kw,wO⟩:=hv 2 5 Z M;(try dsimp only at wO);obtain⟨p5,d5,l5,rfl,yZ⟩:=wO;obtain⟨a1,a2,a3,rfl⟩:=yZ.props.form;obtain⟨a4,a5,a6,rfl⟩:=yZ.dQ.form;obtain⟨a7,a8,a9,rfl⟩:=yZ.layers.form;have H:=H.fT Kw;obtain⟨u8,CZ,qz⟩:=hv 5 8 Z M;(try dsimp only at qz);obtain⟨A8,n8,c8,rfl⟩:=qz.form;have H:=H.fT CZ;obtain⟨Xj,FV,rX⟩:=hv 8 11 Z M;(try dsimp only at rX);obtain⟨A11,n11,c11,rfl⟩:=rX.form;have H:=H.fT FV;have H:=H.aQ (hv 9 12 M M) M;clear hv;refine bH oC 1 (vs:=[_,_,_,_,_]) H wn M fun w H=>kH H<|Rf uU M fun a H=>bH eG 1 (vs:=[_]) H wn M fun w H=>kH H<|Rf mZ M fun a H=>bH lX 1 (vs:=[_]) H wn M fun w H=>aI ⟨M,K1 _ _<|dw<|fun _ K1=>aY bL (cs:=[_,_,_,_,_,_,_,_,_,_,_]) H wn M M (H.hp.dB 1 M M) M fun a H=>bH bL 0 (vs:=[_,_,_,_,_,_,_,_,_,_,_]) H wn M fun w H=>K1 _ _<|eH ((leave1 H results200 (.cons (vk bL (cs:=[_,_,_,_,_,_,_,_,_,_,_]) H M M<|H.hp.dB 0 M M) .nil) ?_).1)⟩;exact H.rt ⟨_,M,bg.mkItem yZ qz rX⟩
theorem aiZ{n:Nat}(ih:I9 n)(hn:n<=4294967296){G:GH}{w0:World}(x:ah)(hz:bY x.dat<n+1):LG (.func (.func 200) #[] #[]) w0 G x.dat:=by
 intro G1 w1 cs hm1 hG1 hr;have h:=avM ih hn _ _ hG1 x cs hr hz;have h2:=kJ (P:=prog) (caps:=[]) (args:=[.agg cs.toArray]) axZ h;exact h2
theorem Uk:∀n:Nat,n<=4294967297->I9 n
 |0,_=>fun _ _ _ _ _ _ h=>absurd h O
 |n+1,hn=>by
  intro G w0 hG l v hv hz;have ih:=Uk n O;have hl:=wo l;refine eN [(0,_)] func140 M ntmps140 M M hG (SR fun _ K1=>ak K1 M (SR fun _ K2=>Rm M fun a H=>s_call ajW H wn M (awR _ _ H.ro l _ _ hv O<|fun y hy=>aiZ ih O y (by have:=I8 hy;omega)) rfl ?_));rintro v4 G4 a w hp4 M9 H;exact kH H<|ak K2 M<|LR results140 M fun H=>H.rt hp4
theorem awg(G:GH)(w0:World)(hG:Hold G w0)(l:List ah)(v:aj)(hv:av G (.sl 11<|l.map ah.dat) v)(hz:aR l<=4294967296) :
  Calls prog 140 #[v] w0 (bD w0 G fun u G'=>av G' (.sl 11<|l.map ah.dat) u):=Uk 4294967297 O G w0 hG l v hv O
theorem azv:SI prog 185 [(0,false),(1,false)]:=⟨V,V,V,V,V⟩
theorem azw:SI prog 188 [(0,false),(1,false)]:=⟨V,V,V,V,V⟩
theorem azx:SI prog 190 [(0,false),(1,false),(2,false),(3,true)]:=⟨V,V,V,V,V⟩
theorem axd:aW 108:=aX func108 M
theorem Bl:dG prog 27 0 0:=⟨V⟩
theorem Hy:dG prog 27 1 1:=⟨V⟩
theorem axe:aW 109:=aX func109 M
theorem axf:aW 110:=aX func110 M
abbrev kS.cells(x:kS):List aj:=[vi x.rev,vi x.move]
abbrev ku.cells(x:ku):List aj:=[vi x.rev,vi x.key,vi x.before,.bool x.had]
theorem aaj{G:GH}{x:kS}{cs:List aj}(h:bg G x.dat cs):cs=x.cells:=by
 simp only[kS.dat,bg,av]at h
 obtain⟨_,_,rfl,⟨rfl,_⟩,_,_,rfl,⟨rfl,_⟩,rfl⟩:=h
 rfl
theorem ahb {p:Prop} (h:p:=by
 obtain⟨_,_,rfl,⟨rfl,_⟩,_,_,rfl,⟨rfl,_⟩,_,_,rfl,⟨rfl,_⟩,_,_,rfl,⟨rfl,_⟩,rfl⟩:=h
 rfl):p:=h
theorem acO{G:GH}{x:ku}{cs:List aj}(h:bg G x.dat cs):cs=x.cells:=by
 simp only[ku.dat,bg,av]at h
 exact ahb
theorem jy.eq_iff(a b:jy):(a.key=b.key∧a.value=b.value)↔a=b:=by cases a;cases b;simp
theorem kS.eq_iff(a b:kS):(a.rev=b.rev∧a.move=b.move)↔a=b:=by cases a;cases b;simp
theorem ku.eq_iff(a b:ku):(a.rev=b.rev∧a.key=b.key∧a.before=b.before∧a.had=b.had)↔a=b:=by cases a;cases b;simp
instance:DecidableEq jy:=fun a b=>decidable_of_iff _ (jy.eq_iff a b)
instance:DecidableEq kS:=fun a b=>decidable_of_iff _ (kS.eq_iff a b)
instance:DecidableEq ku:=fun a b=>decidable_of_iff _ (ku.eq_iff a b)
theorem ZL {p:Prop} (h:p:=by
 rw[zL]
 simp only[Bool.not_eq_true',Ci]
 rw[<-h]
 simp [ng]):p:=h
theorem aFf(a b:jy):(!([(0,false),(1,false)].all fun o=>ng #[vi a.key,vi a.value] o==ng #[vi b.key,vi b.value] o))=!decide (a=b):=by
 have h:=jy.eq_iff a b;exact ZL
theorem aFd(a b:kS):(!([(0,false),(1,false)].all fun o=>ng #[vi a.rev,vi a.move] o==ng #[vi b.rev,vi b.move] o))=!decide (a=b):=by
 have h:=kS.eq_iff a b;exact ZL
theorem aFe(a b:ku):(!([(0,false),(1,false),(2,false),(3,true)].all fun o=>ng #[vi a.rev,vi a.key,vi a.before,.bool a.had] o==ng #[vi b.rev,vi b.key,vi b.before,.bool b.had] o))=!decide (a=b):=by
 have h:=ku.eq_iff a b;exact ZL
theorem zO {p:Prop} (h:p:=by
 exact ⟨O,M,fun _ _ h=>h⟩):p:=h
theorem aus {p:Prop} (h:p:=by
 exact ⟨O,by rw [ji hk2,ji hk3,hsame,hsm],fun b o h=>mI b o (hgm b o h)⟩):p:=h
theorem ZA {p:Prop} (h:p:=by
 intro eY
 try have pW:=dF eY
 have hsm:A[k]=B[k]:=by simpa using eY
 refine kP H (Kc K2 (SC (Rd M (Rm M ?_))));clear H K2;intro a H;refine aI ?_;refine dO ((k+1,G)) (by exact H.sub ⟨M,M,M,M,aC⟩) ?_
 (try dsimp only);exact aus):p:=h
theorem azr(G:GH)(w0:World)(hG:Hold G w0)(A B:List jy)(v u:aj)(hv:av G (.sl 2<|A.map jy.dat) v)(hu:av G (.sl 2<|B.map jy.dat) u) :
  Calls prog 108 #[v,u] w0 (bD w0 G fun r G'=>r=.bool (decide<|A=B)):=by
 obtain⟨vA,vc,rfl,hc1,hc2,hg⟩:=hv.slice;obtain⟨uA,uc,rfl,hd1,hd2,hh⟩:=hu.slice;have hml:maxLen=9223372036854775807:=rfl;(iterate 2 rw[bM]at *);refine eN [(0,_),(1,_)] func108 M ntmps108 M M hG ?_;intro a H;refine kP H (SR fun _ K1=>ak K1 M<|SQ fun _ K2=>SR fun _ K3=>Rm M<|Rl tT M<|Rm M<|Rl tT M<|Rc M<|Kz K3<|Cd M ?_ ?_)<;>clear H K1 K3
 ·intro h10 a H
  try have lC:=dT h10
  exact kP H<|SR fun _ K1=>ak K1 M<|LR results108 M fun H=>H.rt<|iN (mE fun e=>absurd (cO List.length e) O).symm
 intro h10 a H
 try have lC:=dF h10
 refine kP H<|Kc K2<|SQ fun _ K1=>SR fun _ K3=>Rm M<|Rl tT M<|Rm M<|Kz K3<|SB ?_;clear H K2 K3;intro a H;skip;refine dY (ι:=Nat×GH) (Tc:=[(0,_),(1,_),(12,_)]) (Lc:=[]) (fun gh=>[(13,vi gh.1)]) (fun gh=>[]) (fun gh=>gh.2) (fun gh=>gh.1<=A.length∧A.take gh.1=B.take gh.1∧(∀b o,G b=some o->gh.2 b=some o)) (fun gh=>A.length-gh.1) ((0,G)) (by exact H.sub ⟨M,M,M,M,aC⟩) ?_ ?_
 ·exact zO
 clear H;rintro⟨k,g⟩ a w hI H;dsimp only at hI H;obtain⟨hk,hsame,hgm⟩:=hI;dsimp only[lca,bq]at H;refine kP H (SR fun _ K2=>Rc M<|Kz K2<|SQ fun _ K3=>Cd M ?_ ?_)<;>clear H K2
 ·intro dW a H
  try have kF:=dT dW
  have hk2:k<A.length:=by omega
  have hk3:k<B.length:=by omega
  obtain⟨b1,o1,cs1,rfl,QA,CY,hr1⟩:=hg k A[k].dat (by simp[hk2]);obtain rfl:=adu hr1;obtain⟨b2,o2,cs2,rfl,QB,hrow2,hr2⟩:=hh k B[k].dat (by simp[hk3]);obtain rfl:=adu hr2;refine kP H<|Kc K3<|SQ fun _ K2=>SB<|SR fun _ K4=>Rm M<|ak K4 M<|SQ fun _ K5=>?_;clear H K3 K4;intro a H;refine dI hmx [[],[],[0,1],[0,1,2],[],[],[4,5],[4,5,6],ra 0 8] [] V [_,_,_,.agg A[k].cells.toArray,_,_,_,.agg B[k].cells.toArray,.bool (!decide (A[k]=B[k]))] H (aD (Z0 M<|Rm M) (Z0 M<|Rm M) (Z2 0 16 1 17 M<|Ri tT qR M M) ?_<|aD (Z0 M<|Rm M) (Z0 M<|Rm M) (Z2 4 20 5 21 M<|Ri tT qR M M) ?_<|bE ?_ dz) ?_
  ·refine iE 2 18 M M fun _ a w G1 hG HT H fin=>?_;refine aY qR (cs:=A[k].cells) H wn M M (fun j v hj=>H.hp.aJ<|aH hG<|aH hgm<|CY j v hj) M ?_;exact jD
  ·refine iE 6 22 M M fun _ a w G1 hG HT H fin=>?_;refine aY qR (cs:=B[k].cells) H wn M M (fun j v hj=>H.hp.aJ<|aH hG<|aH hgm<|hrow2 j v hj) M ?_;exact jD
  ·refine fu 3 19 7 23 M M fun _ a w G1 hG HT H fin=>?_;refine adN (.inr M) azv H wn M M M M ?_;clear H;intro a H;exact fin H iJ<|iN<|aFf A[k] B[k]
  clear H;intro a w G mI H hv;have H:=H.aQ (hv 8 24 M M) M;clear hv;refine aI ⟨M,?_⟩;refine K5 _ _ ?_;clear K5;refine jU H M ?_ ?_
  ·intro eY
   exact kP H (SR fun _ K3=>ak K3 M (LR results108 M fun H=>H.rt (iN (mE fun e=>absurd eY (by subst e;simp)).symm)))
  exact ZA
 intro dW a H
 try have kF:=dF dW
 refine dS ?_;refine K1 _ _ ?_;clear K1;exact kP H (SR fun _ K1=>ak K1 M (LR results108 M fun H=>H.rt (iN (kZ (by rw[jX O,jX O]at hsame;exact hsame)).symm)))
theorem azk(G:GH)(w0:World)(hG:Hold G w0)(A B:List kS)(v u:aj)(hv:av G (.sl 2<|A.map kS.dat) v)(hu:av G (.sl 2<|B.map kS.dat) u) :
  Calls prog 109 #[v,u] w0 (bD w0 G fun r G'=>r=.bool (decide<|A=B)):=by
 obtain⟨vA,vc,rfl,hc1,hc2,hg⟩:=hv.slice;obtain⟨uA,uc,rfl,hd1,hd2,hh⟩:=hu.slice;have hml:maxLen=9223372036854775807:=rfl;(iterate 2 rw[bM]at *);refine eN [(0,_),(1,_)] func109 M ntmps109 M M hG ?_;intro a H;refine kP H (SR fun _ K1=>ak K1 M<|SQ fun _ K2=>SR fun _ K3=>Rm M<|Rl uM M<|Rm M<|Rl uM M<|Rc M<|Kz K3<|Cd M ?_ ?_)<;>clear H K1 K3
 ·intro h10 a H
  try have lC:=dT h10
  exact kP H<|SR fun _ K1=>ak K1 M<|LR results109 M fun H=>H.rt<|iN (mE fun e=>absurd (cO List.length e) O).symm
 intro h10 a H
 try have lC:=dF h10
 refine kP H<|Kc K2<|SQ fun _ K1=>SR fun _ K3=>Rm M<|Rl uM M<|Rm M<|Kz K3<|SB ?_;clear H K2 K3;intro a H;skip;refine dY (ι:=Nat×GH) (Tc:=[(0,_),(1,_),(12,_)]) (Lc:=[]) (fun gh=>[(13,vi gh.1)]) (fun gh=>[]) (fun gh=>gh.2) (fun gh=>gh.1<=A.length∧A.take gh.1=B.take gh.1∧(∀b o,G b=some o->gh.2 b=some o)) (fun gh=>A.length-gh.1) ((0,G)) (by exact H.sub ⟨M,M,M,M,aC⟩) ?_ ?_
 ·exact zO
 clear H;rintro⟨k,g⟩ a w hI H;dsimp only at hI H;obtain⟨hk,hsame,hgm⟩:=hI;dsimp only[lca,bq]at H;refine kP H (SR fun _ K2=>Rc M<|Kz K2<|SQ fun _ K3=>Cd M ?_ ?_)<;>clear H K2
 ·intro dW a H
  try have kF:=dT dW
  have hk2:k<A.length:=by omega
  have hk3:k<B.length:=by omega
  obtain⟨b1,o1,cs1,rfl,QA,CY,hr1⟩:=hg k A[k].dat (by simp[hk2]);obtain rfl:=aaj hr1;obtain⟨b2,o2,cs2,rfl,QB,hrow2,hr2⟩:=hh k B[k].dat (by simp[hk3]);obtain rfl:=aaj hr2;refine kP H<|Kc K3<|SQ fun _ K2=>SB<|SR fun _ K4=>Rm M<|ak K4 M<|SQ fun _ K5=>?_;clear H K3 K4;intro a H;refine dI hmx [[],[],[0,1],[0,1,2],[],[],[4,5],[4,5,6],ra 0 8] [] V [_,_,_,.agg A[k].cells.toArray,_,_,_,.agg B[k].cells.toArray,.bool (!decide (A[k]=B[k]))] H (aD (Z0 M<|Rm M) (Z0 M<|Rm M) (Z2 0 16 1 17 M<|Ri uM vZ M M) ?_<|aD (Z0 M<|Rm M) (Z0 M<|Rm M) (Z2 4 20 5 21 M<|Ri uM vZ M M) ?_<|bE ?_ dz) ?_
  ·refine iE 2 18 M M fun _ a w G1 hG HT H fin=>?_;refine aY vZ (cs:=A[k].cells) H wn M M (fun j v hj=>H.hp.aJ<|aH hG<|aH hgm<|CY j v hj) M ?_;exact jD
  ·refine iE 6 22 M M fun _ a w G1 hG HT H fin=>?_;refine aY vZ (cs:=B[k].cells) H wn M M (fun j v hj=>H.hp.aJ<|aH hG<|aH hgm<|hrow2 j v hj) M ?_;exact jD
  ·refine fu 3 19 7 23 M M fun _ a w G1 hG HT H fin=>?_;refine adN (.inr M) azw H wn M M M M ?_;clear H;intro a H;exact fin H iJ<|iN<|aFd A[k] B[k]
  clear H;intro a w G mI H hv;have H:=H.aQ (hv 8 24 M M) M;clear hv;refine aI ⟨M,?_⟩;refine K5 _ _ ?_;clear K5;refine jU H M ?_ ?_
  ·intro eY
   exact kP H (SR fun _ K3=>ak K3 M (LR results109 M fun H=>H.rt (iN (mE fun e=>absurd eY (by subst e;simp)).symm)))
  exact ZA
 intro dW a H
 try have kF:=dF dW
 refine dS ?_;refine K1 _ _ ?_;clear K1;exact kP H (SR fun _ K1=>ak K1 M (LR results109 M fun H=>H.rt (iN (kZ (by rw[jX O,jX O]at hsame;exact hsame)).symm)))
theorem azq(G:GH)(w0:World)(hG:Hold G w0)(A B:List ku)(v u:aj)(hv:av G (.sl 4<|A.map ku.dat) v)(hu:av G (.sl 4<|B.map ku.dat) u) :
  Calls prog 110 #[v,u] w0 (bD w0 G fun r G'=>r=.bool (decide<|A=B)):=by
 obtain⟨vA,vc,rfl,hc1,hc2,hg⟩:=hv.slice;obtain⟨uA,uc,rfl,hd1,hd2,hh⟩:=hu.slice;have hml:maxLen=9223372036854775807:=rfl;(iterate 2 rw[bM]at *);refine eN [(0,_),(1,_)] func110 M ntmps110 M M hG ?_;intro a H;refine kP H (SR fun _ K1=>ak K1 M<|SQ fun _ K2=>SR fun _ K3=>Rm M<|Rl wZ M<|Rm M<|Rl wZ M<|Rc M<|Kz K3<|Cd M ?_ ?_)<;>clear H K1 K3
 ·intro h10 a H
  try have lC:=dT h10
  exact kP H<|SR fun _ K1=>ak K1 M<|LR results110 M fun H=>H.rt<|iN (mE fun e=>absurd (cO List.length e) O).symm
 intro h10 a H
 try have lC:=dF h10
 refine kP H<|Kc K2<|SQ fun _ K1=>SR fun _ K3=>Rm M<|Rl wZ M<|Rm M<|Kz K3<|SB ?_;clear H K2 K3;intro a H;skip;refine dY (ι:=Nat×GH) (Tc:=[(0,_),(1,_),(12,_)]) (Lc:=[]) (fun gh=>[(13,vi gh.1)]) (fun gh=>[]) (fun gh=>gh.2) (fun gh=>gh.1<=A.length∧A.take gh.1=B.take gh.1∧(∀b o,G b=some o->gh.2 b=some o)) (fun gh=>A.length-gh.1) ((0,G)) (by exact H.sub ⟨M,M,M,M,aC⟩) ?_ ?_
 ·exact zO
 clear H;rintro⟨k,g⟩ a w hI H;dsimp only at hI H;obtain⟨hk,hsame,hgm⟩:=hI;dsimp only[lca,bq]at H;refine kP H (SR fun _ K2=>Rc M<|Kz K2<|SQ fun _ K3=>Cd M ?_ ?_)<;>clear H K2
 ·intro dW a H
  try have kF:=dT dW
  have hk2:k<A.length:=by omega
  have hk3:k<B.length:=by omega
  obtain⟨b1,o1,cs1,rfl,QA,CY,hr1⟩:=hg k A[k].dat (by simp[hk2]);obtain rfl:=acO hr1;obtain⟨b2,o2,cs2,rfl,QB,hrow2,hr2⟩:=hh k B[k].dat (by simp[hk3]);obtain rfl:=acO hr2;refine kP H<|Kc K3<|SQ fun _ K2=>SB<|SR fun _ K4=>Rm M<|ak K4 M<|SQ fun _ K5=>?_;clear H K3 K4;intro a H;refine dI hmx [[],[],[0,1],[0,1,2],[],[],[4,5],[4,5,6],ra 0 8] [] V [_,_,_,.agg A[k].cells.toArray,_,_,_,.agg B[k].cells.toArray,.bool (!decide (A[k]=B[k]))] H (aD (Z0 M<|Rm M) (Z0 M<|Rm M) (Z2 0 16 1 17 M<|Ri wZ wh M M) ?_<|aD (Z0 M<|Rm M) (Z0 M<|Rm M) (Z2 4 20 5 21 M<|Ri wZ wh M M) ?_<|bE ?_ dz) ?_
  ·refine iE 2 18 M M fun _ a w G1 hG HT H fin=>?_;refine aY wh (cs:=A[k].cells) H wn M M (fun j v hj=>H.hp.aJ<|aH hG<|aH hgm<|CY j v hj) M ?_;exact jD
  ·refine iE 6 22 M M fun _ a w G1 hG HT H fin=>?_;refine aY wh (cs:=B[k].cells) H wn M M (fun j v hj=>H.hp.aJ<|aH hG<|aH hgm<|hrow2 j v hj) M ?_;exact jD
  ·refine fu 3 19 7 23 M M fun _ a w G1 hG HT H fin=>?_;refine adN (.inr M) azx H wn M M M M ?_;clear H;intro a H;exact fin H iJ<|iN<|aFe A[k] B[k]
  clear H;intro a w G mI H hv;have H:=H.aQ (hv 8 24 M M) M;clear hv;refine aI ⟨M,?_⟩;refine K5 _ _ ?_;clear K5;refine jU H M ?_ ?_
  ·intro eY
   exact kP H (SR fun _ K3=>ak K3 M (LR results110 M fun H=>H.rt (iN (mE fun e=>absurd eY (by subst e;simp)).symm)))
  exact ZA
 intro dW a H
 try have kF:=dF dW
 refine dS ?_;refine K1 _ _ ?_;clear K1;exact kP H (SR fun _ K1=>ak K1 M (LR results110 M fun H=>H.rt (iN (kZ (by rw[jX O,jX O]at hsame;exact hsame)).symm)))
theorem fI.eq_iff(a b:fI):(((a.props=b.props∧a.marks.ins=b.marks.ins)∧a.marks.move=b.marks.move)∧a.marks.dQ=b.marks.dQ)∧a.marks.layers=b.marks.layers↔a=b:=by
 obtain⟨p,i,m,d,l⟩:=a;obtain⟨p2,i2,m2,d2,l2⟩:=b
 simp[and_assoc]
instance:DecidableEq fI:=fun a b=>decidable_of_iff _ (fI.eq_iff a b)
abbrev wN(h:fI)(p d l:aj):aj:=.agg #[p,vi h.marks.ins,vi h.marks.move,d,l]
theorem Qg(G:GH)(w0:World)(hG:Hold G w0)(x y:fI)(p d l p2 d2 l2:aj)(hx:kr G x p d l)(hy:kr G y p2 d2 l2) :
  Calls prog 41 #[wN x p d l,wN y p2 d2 l2] w0 (bD w0 G fun r G'=>r=.bool (decide<|x=y)):=by
 obtain⟨pA,pc,rfl,-,-,-⟩:=hx.props.slice;obtain⟨dA,dc,rfl,-,-,-⟩:=hx.dQ.slice;obtain⟨lA,lc,rfl,-,-,-⟩:=hx.layers.slice;obtain⟨N9,pc2,rfl,-,-,-⟩:=hy.props.slice;obtain⟨zU,MI,rfl,-,-,-⟩:=hy.dQ.slice;obtain⟨lA2,lc2,rfl,-,-,-⟩:=hy.layers.slice;have he:=fI.eq_iff x y;refine eN [(0,_),(1,_)] func41 M ntmps41 M M hG fun a H=>dw<|fun _ K1=>eD (cs:=[_,_,_,_,_]) H wn M M M fun b2 a w hb2 H=>eD (cs:=[_,_,_,_,_]) H wn M M M fun b3 a w hb3 H=>kH H<|ak K1 M<|SR fun _ K2=>aV JO Dy 1 M M<|aV JO Dy 0 M M fun a H=>s_call axd H wn M (azr _ _ H.ro x.props y.props _ _ hx.props hy.props) M ?_;rintro v9 G9 a w rfl ze H;refine kH H (Rm M<|Sp 10 M ?_ ?_)<;>clear H
 ·intro h10 a H
  try have lC:=dT h10
  refine kH H (YF xP h10 M<|YF Bl h10 M<|YO aF 1 h10 M<|YF xP h10 M<|YF Bl h10 M<|YO aF 0 h10 M<|YC h10 M<|Pt h10 M<|Rm M<|Sp 19 M ?_ ?_)<;>clear H
  ·intro h19 a H
   try have vQ:=dT h19
   refine kH H (YF xP h19 M<|YF Hy h19 M<|YO aF 1 h19 M<|YF xP h19 M<|YF Hy h19 M<|YO aF 0 h19 M<|YC h19 M<|Pt h19 M<|Rm M<|Sp 28 M ?_ ?_)<;>clear H
   ·intro eZ a H
    try have p28:=dT eZ
    refine kH H<|YF xP eZ M<|YF Bn eZ M<|YO BR 1 eZ M<|YF xP eZ M<|YF Bn eZ M<|YO BR 0 eZ M fun a H=>s_call axe H (wg H M M eZ) M (azk _ _ H.ro x.marks.dQ y.marks.dQ _ _ (hx.dQ.mono ze)<|hy.dQ.mono ze) M ?_;rintro v35 G35 a w rfl amE H;refine kH H (Pt eZ M<|Rm M<|Sp 37 M ?_ ?_)<;>clear H
    ·intro h37 a H
     try have p37:=dT h37
     refine kH H<|YF xP h37 M<|YF Hz h37 M<|YO IV 1 h37 M<|YF xP h37 M<|YF Hz h37 M<|YO IV 0 h37 M fun a H=>s_call axf H (wg H M M h37) M (azq _ _ H.ro x.marks.layers y.marks.layers _ _ ((hx.layers.mono ze).mono amE) ((hy.layers.mono ze).mono amE)) M ?_;rintro v44 G44 a w rfl aKh H;exact kH H (Pt h37 M<|ak K2 M<|LR results41 M fun H=>H.rt<|iN (by simp_all))
    exact fun h37=>bJ h37 M (aU h37 M<|aU h37 M<|Pf h37 M<|ak K2 M<|LR results41 M fun H=>H.rt<|iN (by simp_all))
   exact fun eZ=>bJ eZ M (aU eZ M<|aU eZ M<|Pf eZ M<|Rm M<|bJ M M<|aU M M<|aU M M<|Pf M M<|ak K2 M<|LR results41 M fun H=>H.rt<|iN (by simp_all))
  exact fun h19=>bJ h19 M (aU h19 M<|aU h19 M<|Pf h19 M<|Rm M<|bJ M M<|aU M M<|aU M M<|Pf M M<|Rm M<|bJ M M<|aU M M<|aU M M<|Pf M M<|ak K2 M<|LR results41 M fun H=>H.rt<|iN (by simp_all))
 exact fun h10=>bJ h10 M (aU h10 M<|aU h10 M<|Pf h10 M<|Rm M<|bJ M M<|aU M M<|aU M M<|Pf M M<|Rm M<|bJ M M<|aU M M<|aU M M<|Pf M M<|Rm M<|bJ M M<|aU M M<|aU M M<|Pf M M<|ak K2 M<|LR results41 M fun H=>H.rt<|iN (by simp_all))
section
section
variable{P:Program}{N:Nat}{D:List Deferred}{w0 w w':World}{F:Nat->Prop}{G0 G G':GH}{L L' Li Lo:OL}{T:List (Nat×aj)}{a a':Act}{Q:Exit->Act->World->Prop}
theorem St.cast(h:St N D w0 F G0 G L T a w)(e:L=L'):St N D w0 F G0 G L' T a w:=e ▸ h
theorem St.assoc{A B C:OL}(h:St N D w0 F G0 G ((A++B)++C) T a w):St N D w0 F G0 G (A++(B++C)) T a w:=h.cast<|iG _ _ _
theorem St.un{A B C:OL}(h:St N D w0 F G0 G (A++(B++C)) T a w):St N D w0 F G0 G ((A++B)++C) T a w:=h.cast (iG _ _ _).symm
theorem St.NV{A B:OL}(h:St N D w0 F G0 G (A++B) T a w):St N D w0 F G0 G (A++(B++[])) T a w:=h.cast (by rw[iR])
theorem PS{ι κ:Type}{Lc:OL}{Cw:Operand}{ps:List Nat}{assign body:Code}{gf:FuncId}{caps:List aj}{xs:List AP}{Gi:GH}
  (Lv:Nat->ι->OL)(Lt:Nat->ι->OL)(inv:Nat->ι->GH->Prop)(cx:κ->Code)(Lx Jj:κ->OL)(Da:κ->GH->Prop)(i0:ι)
  (H:St N D w0 F G0 G (Lc++Lv 0 i0++Lt 0 i0) T a w)(hg:ev T Cw=some (.func (.func gf) #[] caps.toArray))(en:∀args w,(callFunc gf args).run P w=.ok (.enter gf args) w)(hit:Iter P Gi (.func (.func gf) #[] caps.toArray) xs)(hGi:∀b o,Gi b=some o->G b=some o)
  (hps:ps.all (Nat.blt · N)=true)(hlen:∀k args g,zD xs k args g->args.length=ps.length)(hinv:∀k i(G G':GH),(∀b o,G b=some o->G' b=some o)->inv k i G->inv k i G')(abM:∀x(G G':GH),(∀b o,G b=some o->G' b=some o)->Da x G->Da x G')(h0:inv 0 i0 G)
  (round:∀(l:Nat)(Dj zQ:Obj)(bk:OL)(k:Nat)(args:List aj)(i:ι)(G1:GH)(w1:World)(F1:Nat->Prop)(B1:Code->Exit->Act->World->Prop)(a1:Act),zD xs k args G1->(∀b o,G b=some o->G1 b=some o)->inv k i G1->
   (∀T' G2 L2 a2 w2 c,St N [] w1 F1 G1 G2 ((l,Dj)::L2) T' a2 w2->(∀w3,St N [] w1 F1 G1 G2 ((l,zQ)::L2) T' a2 w3->WP (some l) P c (B1 c) a2 w3)->Exit.then (fun a2 w2=>∃w3,(Instr.beginRound l).run P w2=.ok () w3∧c.wpIn (FW<|some l) 0 P (B1 c) a2 w3) (fun _ _ _=>False) .normal a2 w2)->
   (∀i' T' G2 a2 w2 c,St N [] w1 F1 G1 G2 ((l,zQ)::(Lc++Lv (k+1) i'++(bk++Lt (k+1) i'))) T' a2 w2->inv (k+1) i' G2->B1 c .normal a2 w2)->
   (∀x T' G2 a2 w2 c,St N [] w1 F1 G1 G2 ((l,zQ)::(Lc++Lx x++(bk++Jj x))) T' a2 w2->Da x G2->(cx x=.ret->B1 c .ret a2 w2)∧∀n,cx x=.exit n->B1 c (.exit n) a2 w2)->
   St N [] w1 F1 G1 G1 ((l,Dj)::(Lc++Lv k i++(bk++Lt k i))) (yJ ps args T) a1 w1->
   WP (some l) P assign (Exit.then (fun a2 w2=>∃w3,(Instr.beginRound l).run P w2=.ok () w3∧body.wpIn (FW<|some l) 0 P (B1 body) a2 w3) (fun _ _ _=>False)) a1 w1)
  (hdone:∀Dk i G1 a1 w1,(∀b o,G b=some o->G1 b=some o)->inv xs.length i G1->St N ({ target:=.collected Dk,args:=#[] }::D) w0 F G0 G1 ((Dk,.deferred<|some [])::(Lc++Lv xs.length i++Lt xs.length i)) T a1 w1->Q .normal a1 w1)
  (hstop:∀Dk x G1 a1 w1,(∀b o,G b=some o->G1 b=some o)->Da x G1->St N ({ target:=.collected Dk,args:=#[] }::D) w0 F G0 G1 ((Dk,.deferred<|some [])::(Lc++Lx x++Jj x)) T a1 w1->WP none P (cx x) Q a1 w1) :
  WP none P (.rangeFunc Cw ps.toArray assign body) Q a w:=by
 refine avf (J:=fun k g L=>∃i,L=Lc++Lv k i++Lt k i∧inv k i g) (Jx:=fun c g L=>∃x,c=cx x∧L=Lc++Lx x++Jj x∧Da x g) H hg en hit hGi hps hlen (fun k G G' L hm⟨i,e,h⟩=>⟨i,e,hinv k i G G' hm h⟩) (fun c G G' L hm⟨x,e1,e2,h⟩=>⟨x,e1,e2,abM x G G' hm h⟩) ⟨i0,M,h0⟩ ?_ ?_ ?_
 ·rintro l q bk k args G1 L1 w1 a1 hk hm ⟨i,rfl,hi⟩ H1
  have pm:∀A B:OL,(bk++(A++B)).Perm (A++(bk++B)):=fun A B=>by
   rw[<-iG,<-iG]
   exact List.Perm.append_right B vD
  refine round l (q.at .ready none) (q.at .busy none) bk k args i G1 w1 _ (fun _=>roundPost P l _) a1 hk hm hi ?_ ?_ ?_<|H1.perm<|List.Perm.cons _<|pm _ _
  ·intro T' G2 L2 a2 w2 c H2 h;exact aiK H2 h
  ·intro i' T' G2 a2 w2 c H2 h2;exact Oe none (H2.perm<|List.Perm.cons _ (pm _ _).symm) ⟨_,M,i',M,h2⟩
  ·intro x T' G2 a2 w2 c H2 h2
   have H3:=H2.perm<|List.Perm.cons _ (pm _ _).symm
   refine⟨fun e=>?_,fun n e=>?_⟩
   ·exact Oe (some .ret) H3 ⟨_,_,M,x,e.symm,M,h2⟩
   ·exact Oe (some (.exit n)) H3 ⟨_,_,M,x,e.symm,M,h2⟩
 ·rintro Dk G1 L1 a1 w1 hm ⟨i,rfl,hi⟩ H1
  exact hdone Dk i G1 a1 w1 hm hi H1
 ·rintro Dk c G1 L1 a1 w1 hm ⟨x,rfl,rfl,hx⟩ H1
  exact hstop Dk x G1 a1 w1 hm hx H1
def mkD(ds:List Nat):List Deferred:=ds.map fun b=>{ target:=.collected b,args:=#[] }
def KO(ds:List Nat):OL:=ds.map fun b=>(b,.deferred (some []))
theorem ave{r:Option Nat}{ι:Type}{c:Code}{Tc:List (Nat×aj)}{Lc:List (Nat×Obj)}(Dv:ι->List Deferred)(Tv:ι->List (Nat×aj))(Lv:ι->List (Nat×Obj))(Gv:ι->GH)(Pr:ι->Prop)(m:ι->Nat)(i0:ι)
  (H:St N (Dv i0) w0 F G0 (Gv i0) (Lc++Lv i0) (Tv i0++Tc) a w)(hP:Pr i0)
  (round:∀i a w,Pr i->St N (Dv i) w0 F G0 (Gv i) (Lc++Lv i) (Tv i++Tc) a w->
   WP r P c (Exit.then (fun a' w'=>∃i',(St N (Dv i') w0 F G0 (Gv i') (Lc++Lv i') (Tv i'++Tc) a' w'∧Pr i')∧m i'<m i) Q) a w):WP r P (.loop c) Q a w :=
 aiN (fun i a w=>St N (Dv i) w0 F G0 (Gv i) (Lc++Lv i) (Tv i++Tc) a w∧Pr i) m i0 ⟨H,hP⟩ fun i a w hI=>round i a w hI.2 hI.1
theorem aEH{ι:Type}{Dv:ι->List Deferred}{Tc:List (Nat×aj)}{Lc:List (Nat×Obj)}{Tv:ι->List (Nat×aj)}{Lv:ι->List (Nat×Obj)}{Gv:ι->GH}{Pr:ι->Prop}{m:ι->Nat}{i:ι}(i':ι)
  (H:St N (Dv i') w0 F G0 (Gv i') (Lc++Lv i') (Tv i'++Tc) a w)(hP:Pr i')(hm:m i'<m i) :
  ∃i',(St N (Dv i') w0 F G0 (Gv i') (Lc++Lv i') (Tv i'++Tc) a w∧Pr i')∧m i'<m i:=⟨i',⟨H,hP⟩,hm⟩
theorem acP{fn:Func}{R:Ending->World->Prop}{Lh Lt:OL}:∀(ds:List Nat){a:Act}{w:World},St N (mkD ds) w0 F G0 G (Lh++(KO ds++Lt)) T a w->
  (∀a' w',St N [] w0 F G0 G (Lh++Lt) T a' w'->bodyPostM (FW none) 0 P fn R .ret a' w')->bodyPostM (FW none) 0 P fn R .ret a w∧bodyPostM (FW none) 0 P fn R .normal a w
 |[],a,w,H,k=>⟨k a w H,k a w H⟩
 |b::ds,a,w,H,k=>by
  refine Iu (b:=b) (D:=mkD ds) H Lh.length (by rw[uQ (eP _),Nat.sub_self];rfl) fun a' w' H'=>(acP ds (Lh:=Lh) (Lt:=Lt) (H'.cast ?_) k).1
  rw[List.eraseIdx_append_of_length_le (eP _),Nat.sub_self];rfl
end
end
def n1(x:ah):Nat:=if tX x=0 then bO x else 0
theorem aEx(x:ah):kL [x]=n1 x:=by
 simp only[kL,yN,n1,bC,List.all_cons,List.all_nil,Bool.and_true,qm]
 split <;>simp_all
mutual
/-- The positions of a flow and of those within it, from an item on. -/
def I6(flow:Int)(at_:Nat):ah->List (Int×Int)
 |.mk k c i t h f r=>(List.range (n1 (.mk k c i t h f r))).map (fun q=>(flow,((at_+q:Nat):Int)))++((if k=6 then AQ i 0 f else[])++xg r)
def AQ(flow:Int):Nat->List ah->List (Int×Int)
 |at_,[]=>[(flow,(at_:Int))]
 |at_,x::l=>I6 flow at_ x++AQ flow (at_+n1 x) l
def xg:List aN->List (Int×Int)
 |[]=>[]
 |r::l=>I7 r++xg l
def I7:aN->List (Int×Int)
 |.mk _ cs=>DL cs
def DL:List aP->List (Int×Int)
 |[]=>[]
 |c::l=>I5 c++DL l
def I5:aP->List (Int×Int)
 |.mk i _ f=>AQ i 0 f
end
theorem av.len{G:GH}{sz:Nat}{rows:List (List Dat)}{A:Option Addr}{n c:Nat}(h:av G (.sl sz rows) (.slice A n c)):n=rows.length:=h.cells.1
theorem av.at_{G:GH}{sz:Nat}{rows:List (List Dat)}{A:Option Addr}{n c:Nat}(h:av G (.sl sz rows) (.slice A n c)):∀k r,rows[k]?=some r->∃b o cs,A=some ⟨b,o,none⟩∧cs.length=sz∧(∀j u,cs[j]?=some u->aJ G b (o+k*sz+j)=some u)∧bg G r cs:=by
 obtain⟨A2,c2,e,_,_,hg⟩:=h.slice
 cases e;exact hg
theorem Gg{G:GH}{l:List aN}{A:Option Addr}{k:Nat}(hk:k<l.length)(hg:∀k r,(l.map aN.dat)[k]?=some r->∃b o cs,A=some ⟨b,o,none⟩∧cs.length=6∧(∀j u,cs[j]?=some u->aJ G b (o+k*6+j)=some u)∧bg G r cs) :
  ∃b o pA pn pc dA dn dc yA yn yc cA cn cc,A=some ⟨b,o,none⟩∧(∀j u,[.slice pA pn pc,vi l[k].head.marks.ins,vi l[k].head.marks.move,.slice dA dn dc,.slice yA yn yc,.slice cA cn cc][j]?=some u->aJ G b (o+k*6+j)=some u)∧
   kr G l[k].head (.slice pA pn pc) (.slice dA dn dc) (.slice yA yn yc)∧av G (.sl 7<|l[k].cells.map aP.dat) (.slice cA cn cc):=by
 obtain⟨b,o,cs,h1,h2,h3,h4⟩:=hg k l[k].dat (by simp[hk]);obtain⟨pA,pn,pc,dA,dn,dc,yA,yn,yc,cA,cn,cc,rfl,h5,h6⟩:=h4.row;exact⟨b,o,pA,pn,pc,dA,dn,dc,yA,yn,yc,cA,cn,cc,h1,h3,h5,h6⟩
theorem Hr{G:GH}{l:List aP}{A:Option Addr}{k:Nat}(hk:k<l.length)(hg:∀k r,(l.map aP.dat)[k]?=some r->∃b o cs,A=some ⟨b,o,none⟩∧cs.length=7∧(∀j u,cs[j]?=some u->aJ G b (o+k*7+j)=some u)∧bg G r cs) :
  ∃b o pA pn pc dA dn dc yA yn yc fA fn fc,A=some ⟨b,o,none⟩∧(∀j u,[vi l[k].id,.slice pA pn pc,vi l[k].head.marks.ins,vi l[k].head.marks.move,.slice dA dn dc,.slice yA yn yc,.slice fA fn fc][j]?=some u->aJ G b (o+k*7+j)=some u)∧
   kr G l[k].head (.slice pA pn pc) (.slice dA dn dc) (.slice yA yn yc)∧av G (.sl 11<|l[k].flow.map ah.dat) (.slice fA fn fc):=by
 obtain⟨b,o,cs,h1,h2,h3,h4⟩:=hg k l[k].dat (by simp[hk]);obtain⟨pA,pn,pc,dA,dn,dc,yA,yn,yc,fA,fn,fc,rfl,h5,h6⟩:=h4.cell;exact⟨b,o,pA,pn,pc,dA,dn,dc,yA,yn,yc,fA,fn,fc,h1,h3,h5,h6⟩
theorem Qf:aW 41:=aX func41 M
theorem aay:aW 40:=aX func40 M
theorem ayC:aW 239:=aX func239 M
theorem Fy:dG prog 118 1 1:=⟨V⟩
theorem yO:dG prog 118 2 2:=⟨V⟩
theorem axL:aW 181:=aX func181 M
theorem axb:aW 106:=aX func106 M
theorem ayD:aW 240:=aX func240 M
theorem axM:aW 182:=aX func182 M
theorem axc:aW 107:=aX func107 M
theorem bytes_beq(p q:ByteArray):((p.toList==q.toList)=true)↔p=q:=by
 rw[ByteArray.toList_eq,ByteArray.toList_eq,beq_iff_eq];exact⟨fun e=>Go.WideShapes.bytes_inj e,fun e=>by rw[e]⟩
theorem ah.eq_iff(a b:ah):((((((a.kind=b.kind∧a.code=b.code)∧a.id=b.id)∧a.text=b.text)∧a.head=b.head)∧a.flow=b.flow)∧a.rows=b.rows)↔a=b:=by
 cases a;cases b
 simp[ah.kind,ah.code,ah.id,ah.text,ah.head,ah.flow,ah.rows,and_assoc]
theorem aN.eq_iff(a b:aN):(a.head=b.head∧a.cells=b.cells)↔a=b:=by
 cases a;cases b
 simp[aN.head,aN.cells]
theorem aP.eq_iff(a b:aP):((a.id=b.id∧a.head=b.head)∧a.flow=b.flow)↔a=b:=by
 cases a;cases b
 simp[aP.id,aP.head,aP.flow,and_assoc]
def LH(fv:aj)(G:GH)(d d':List Dat)(p:Prop):Prop:=∀(G1:GH)(w1:World)(cs cs':List aj),(∀b o,G b=some o->G1 b=some o)->Hold G1 w1->bg G1 d cs->bg G1 d' cs'->
 uN prog fv [.agg cs.toArray,.agg cs'.toArray] w1 (bD w1 G1 fun u G'=>∃b,u=.bool b∧(b=true↔p))
theorem aut {p:Prop} (h:p:=by
 exact ⟨O,by rw [ji hk2,ji hk3,hsame,Ni.1 (by simpa using kK)],fun b o h=>Nn b o (hgm b o h)⟩):p:=h
theorem Zz {p:Prop} (h:p:=by
 intro kK a H
 try have p30:=dF kK
 refine kP H (Kc K2 (SC (Rd M (Rm M ?_))));clear H K2;intro a H;refine aI ?_;refine dO ((k+1,Jf)) (by exact(H.dR (Pl:=[_,_]) (dH:=[]) [] Z M).sub ⟨M,M,M,M,M,aC⟩) ?_
 (try dsimp only);exact aut):p:=h
theorem azm(G:GH)(w0:World)(hG:Hold G w0)(A B:List ah)(v u fv:aj)(hv:av G (.sl 11<|A.map ah.dat) v)(hu:av G (.sl 11<|B.map ah.dat) u)(hf:∀(i:Nat)(h1:i<A.length)(h2:i<B.length),LH fv G A[i].dat B[i].dat<|A[i]=B[i]) :
  Calls prog 106 #[v,u,fv] w0 (bD w0 G fun r G'=>∃b,r=.bool b∧(b=true↔A=B)):=by
 obtain⟨vA,vc,rfl,hc1,hc2,hg⟩:=hv.slice;obtain⟨uA,uc,rfl,hd1,hd2,hh⟩:=hu.slice;have hml:maxLen=9223372036854775807:=rfl;(iterate 2 rw[bM]at *);refine eN [(0,_),(1,_),(2,_)] func106 M ntmps106 M M hG ?_;intro a H;refine kP H (SR fun _ K1=>ak K1 M<|SQ fun _ K2=>SR fun _ K3=>Rm M<|Rl dM M<|Rm M<|Rl dM M<|Rc M<|Kz K3<|Cd M ?_ ?_)<;>clear H K1 K3
 ·intro dW a H
  try have kF:=dT dW
  exact kP H (SR fun _ K1=>ak K1 M<|LR results106 M fun H=>H.rt ⟨false,M,by simp only[zJ,false_iff];exact fun e=>absurd (cO List.length e) O⟩)
 intro dW a H
 try have kF:=dF dW
 refine kP H<|Kc K2<|SQ fun _ K1=>SR fun _ K3=>Rm M<|Rl dM M<|Rm M<|Kz K3<|SB ?_;clear H K2 K3;intro a H;skip;refine dY (ι:=Nat×GH) (Tc:=[(1,_),(2,_),(15,_),(16,_)]) (Lc:=[]) (fun gh=>[(17,vi gh.1)]) (fun gh=>[]) (fun gh=>gh.2) (fun gh=>gh.1<=A.length∧A.take gh.1=B.take gh.1∧(∀b o,G b=some o->gh.2 b=some o)) (fun gh=>A.length-gh.1) ((0,G)) (by exact H.sub ⟨M,M,M,M,M,aC⟩) ?_ ?_
 ·exact zO
 clear H;rintro⟨k,g⟩ a w hI H;dsimp only at hI H;obtain⟨hk,hsame,hgm⟩:=hI;dsimp only[lca,bq]at H;refine kP H (SR fun _ K2=>Rc M<|Kz K2<|SQ fun _ K3=>Cd M ?_ ?_)<;>clear H K2
 ·intro h18 a H
  try have pU:=dT h18
  have hk2:k<A.length:=by omega
  have hk3:k<B.length:=by omega
  obtain⟨b1,o1,cs1,rfl,QA,CY,hr1⟩:=hg k A[k].dat (by simp[hk2]);obtain⟨pA,pn,pc,dA,dn,dc,yA,yn,yc,fA,fn,fc,rA,rn,rc,rfl,-⟩:=hr1.item;obtain⟨b2,o2,cs2,rfl,QB,hrow2,hr2⟩:=hh k B[k].dat (by simp[hk3]);obtain⟨N9,RX,pc2,zU,Qc,MI,Sr,Sw,Sv,JL,JQ,JM,rA2,WM,rc2,rfl,-⟩:=hr2.item;refine kP H<|Kc K3<|SQ fun _ K2=>SB<|SR fun _ K4=>Rm M<|Ri dM bL M M ?_;clear H K3;intro a H;refine aY bL (cs:=_) H wn M M (fun j v hj=>H.hp.aJ<|aH hgm<|CY j v hj) M ?_;clear H;intro a H;refine dK bL H wn M ?_;clear H;intro b8 a w Ee H;refine kH H<|Ra M ?_;clear H;intro a H;refine bH bL 0 (vs:=[_,_,_,_,_,_,_,_,_,_,_]) H wn M ?_;clear H;intro w H;refine K4 _ _ ?_;clear K4;refine kP H<|SR fun _ K3=>Rm M<|Rm M<|Ri dM bL M M ?_;clear H;intro a H;refine aY bL (cs:=_) H wn M M (fun j v hj=>H.hp.aJ<|aH hgm<|hrow2 j v hj) M ?_;clear H;intro a H;refine dK bL H wn M ?_;clear H;intro b9 a w yY H;refine bH bL 0 (vs:=[_,_,_,_,_,_,_,_,_,_,_]) H wn M ?_;clear H;intro w H;refine K3 _ _ ?_;clear K3;refine kP H<|SR fun _ K3=>Rm M ?_;clear H;intro a H;refine aY bL (cs:=[_,_,_,_,_,_,_,_,_,_,_]) H wn M M (H.hp.dB 1 M M) M ?_;clear H;intro a H;refine aY bL (cs:=[_,_,_,_,_,_,_,_,_,_,_]) H wn M M (H.hp.dB 0 M M) M ?_;clear H;intro a H;refine ow H wn M M (hf k hk2 hk3 _ _ _ _ hgm H.ro (hr1.mono hgm)<|hr2.mono hgm) M ?_;clear H;rintro v29 Jf a w ⟨b29,rfl,Ni⟩ Nn H;refine kH H (Rn M<|Kz K3<|Cd M ?_ ?_)<;>clear H K3
  ·intro kK a H
   exact kP H (SR fun _ K3=>ak K3 M<|LR results106 M fun H=>H.rt ⟨false,M,by simp only[zJ,false_iff];rintro rfl;exact absurd (Ni.2 M) (by simpa using kK)⟩)
  exact Zz
 intro h18 a H
 try have pU:=dF h18
 refine dS ?_;refine K1 _ _ ?_;clear K1;exact kP H (SR fun _ K1=>ak K1 M<|LR results106 M fun H=>H.rt ⟨true,M,by rw[jX O,jX O]at hsame;simpa using hsame⟩)
theorem azn(G:GH)(w0:World)(hG:Hold G w0)(A B:List aN)(v u fv:aj)(hv:av G (.sl 6<|A.map aN.dat) v)(hu:av G (.sl 6<|B.map aN.dat) u)(hf:∀(i:Nat)(h1:i<A.length)(h2:i<B.length),LH fv G A[i].dat B[i].dat<|A[i]=B[i]) :
  Calls prog 181 #[v,u,fv] w0 (bD w0 G fun r G'=>∃b,r=.bool b∧(b=true↔A=B)):=by
 obtain⟨vA,vc,rfl,hc1,hc2,hg⟩:=hv.slice;obtain⟨uA,uc,rfl,hd1,hd2,hh⟩:=hu.slice;have hml:maxLen=9223372036854775807:=rfl;(iterate 2 rw[bM]at *);refine eN [(0,_),(1,_),(2,_)] func181 M ntmps181 M M hG ?_;intro a H;refine kP H (SR fun _ K1=>ak K1 M<|SQ fun _ K2=>SR fun _ K3=>Rm M<|Rl jI M<|Rm M<|Rl jI M<|Rc M<|Kz K3<|Cd M ?_ ?_)<;>clear H K1 K3
 ·intro dW a H
  try have kF:=dT dW
  exact kP H (SR fun _ K1=>ak K1 M<|LR results181 M fun H=>H.rt ⟨false,M,by simp only[zJ,false_iff];exact fun e=>absurd (cO List.length e) O⟩)
 intro dW a H
 try have kF:=dF dW
 refine kP H<|Kc K2<|SQ fun _ K1=>SR fun _ K3=>Rm M<|Rl jI M<|Rm M<|Kz K3<|SB ?_;clear H K2 K3;intro a H;skip;refine dY (ι:=Nat×GH) (Tc:=[(1,_),(2,_),(15,_),(16,_)]) (Lc:=[]) (fun gh=>[(17,vi gh.1)]) (fun gh=>[]) (fun gh=>gh.2) (fun gh=>gh.1<=A.length∧A.take gh.1=B.take gh.1∧(∀b o,G b=some o->gh.2 b=some o)) (fun gh=>A.length-gh.1) ((0,G)) (by exact H.sub ⟨M,M,M,M,M,aC⟩) ?_ ?_
 ·exact zO
 clear H;rintro⟨k,g⟩ a w hI H;dsimp only at hI H;obtain⟨hk,hsame,hgm⟩:=hI;dsimp only[lca,bq]at H;refine kP H (SR fun _ K2=>Rc M<|Kz K2<|SQ fun _ K3=>Cd M ?_ ?_)<;>clear H K2
 ·intro h18 a H
  try have pU:=dT h18
  have hk2:k<A.length:=by omega
  have hk3:k<B.length:=by omega
  obtain⟨b1,o1,cs1,rfl,QA,CY,hr1⟩:=hg k A[k].dat (by simp[hk2]);obtain⟨pA,pn,pc,dA,dn,dc,yA,yn,yc,fA,fn,fc,rfl,-⟩:=hr1.row;obtain⟨b2,o2,cs2,rfl,QB,hrow2,hr2⟩:=hh k B[k].dat (by simp[hk3]);obtain⟨N9,RX,pc2,zU,Qc,MI,Sr,Sw,Sv,JL,JQ,JM,rfl,-⟩:=hr2.row;refine kP H<|Kc K3<|SQ fun _ K2=>SB<|SR fun _ K4=>Rm M<|Ri jI iC M M ?_;clear H K3;intro a H;refine aY iC (cs:=_) H wn M M (fun j v hj=>H.hp.aJ<|aH hgm<|CY j v hj) M ?_;clear H;intro a H;refine dK iC H wn M ?_;clear H;intro b8 a w Ee H;refine kH H<|Ra M ?_;clear H;intro a H;refine bH iC 0 (vs:=[_,_,_,_,_,_]) H wn M ?_;clear H;intro w H;refine K4 _ _ ?_;clear K4;refine kP H<|SR fun _ K3=>Rm M<|Rm M<|Ri jI iC M M ?_;clear H;intro a H;refine aY iC (cs:=_) H wn M M (fun j v hj=>H.hp.aJ<|aH hgm<|hrow2 j v hj) M ?_;clear H;intro a H;refine dK iC H wn M ?_;clear H;intro b9 a w yY H;refine bH iC 0 (vs:=[_,_,_,_,_,_]) H wn M ?_;clear H;intro w H;refine K3 _ _ ?_;clear K3;refine kP H<|SR fun _ K3=>Rm M ?_;clear H;intro a H;refine aY iC (cs:=[_,_,_,_,_,_]) H wn M M (H.hp.dB 1 M M) M ?_;clear H;intro a H;refine aY iC (cs:=[_,_,_,_,_,_]) H wn M M (H.hp.dB 0 M M) M ?_;clear H;intro a H;refine ow H wn M M (hf k hk2 hk3 _ _ _ _ hgm H.ro (hr1.mono hgm)<|hr2.mono hgm) M ?_;clear H;rintro v29 Jf a w ⟨b29,rfl,Ni⟩ Nn H;refine kH H (Rn M<|Kz K3<|Cd M ?_ ?_)<;>clear H K3
  ·intro kK a H
   exact kP H (SR fun _ K3=>ak K3 M<|LR results181 M fun H=>H.rt ⟨false,M,by simp only[zJ,false_iff];rintro rfl;exact absurd (Ni.2 M) (by simpa using kK)⟩)
  exact Zz
 intro h18 a H
 try have pU:=dF h18
 refine dS ?_;refine K1 _ _ ?_;clear K1;exact kP H (SR fun _ K1=>ak K1 M<|LR results181 M fun H=>H.rt ⟨true,M,by rw[jX O,jX O]at hsame;simpa using hsame⟩)
theorem azl(G:GH)(w0:World)(hG:Hold G w0)(A B:List aP)(v u fv:aj)(hv:av G (.sl 7<|A.map aP.dat) v)(hu:av G (.sl 7<|B.map aP.dat) u)(hf:∀(i:Nat)(h1:i<A.length)(h2:i<B.length),LH fv G A[i].dat B[i].dat<|A[i]=B[i]) :
  Calls prog 239 #[v,u,fv] w0 (bD w0 G fun r G'=>∃b,r=.bool b∧(b=true↔A=B)):=by
 obtain⟨vA,vc,rfl,hc1,hc2,hg⟩:=hv.slice;obtain⟨uA,uc,rfl,hd1,hd2,hh⟩:=hu.slice;have hml:maxLen=9223372036854775807:=rfl;(iterate 2 rw[bM]at *);refine eN [(0,_),(1,_),(2,_)] func239 M ntmps239 M M hG ?_;intro a H;refine kP H (SR fun _ K1=>ak K1 M<|SQ fun _ K2=>SR fun _ K3=>Rm M<|Rl ko M<|Rm M<|Rl ko M<|Rc M<|Kz K3<|Cd M ?_ ?_)<;>clear H K1 K3
 ·intro dW a H
  try have kF:=dT dW
  exact kP H (SR fun _ K1=>ak K1 M<|LR results239 M fun H=>H.rt ⟨false,M,by simp only[zJ,false_iff];exact fun e=>absurd (cO List.length e) O⟩)
 intro dW a H
 try have kF:=dF dW
 refine kP H<|Kc K2<|SQ fun _ K1=>SR fun _ K3=>Rm M<|Rl ko M<|Rm M<|Kz K3<|SB ?_;clear H K2 K3;intro a H;skip;refine dY (ι:=Nat×GH) (Tc:=[(1,_),(2,_),(15,_),(16,_)]) (Lc:=[]) (fun gh=>[(17,vi gh.1)]) (fun gh=>[]) (fun gh=>gh.2) (fun gh=>gh.1<=A.length∧A.take gh.1=B.take gh.1∧(∀b o,G b=some o->gh.2 b=some o)) (fun gh=>A.length-gh.1) ((0,G)) (by exact H.sub ⟨M,M,M,M,M,aC⟩) ?_ ?_
 ·exact zO
 clear H;rintro⟨k,g⟩ a w hI H;dsimp only at hI H;obtain⟨hk,hsame,hgm⟩:=hI;dsimp only[lca,bq]at H;refine kP H (SR fun _ K2=>Rc M<|Kz K2<|SQ fun _ K3=>Cd M ?_ ?_)<;>clear H K2
 ·intro h18 a H
  try have pU:=dT h18
  have hk2:k<A.length:=by omega
  have hk3:k<B.length:=by omega
  obtain⟨b1,o1,cs1,rfl,QA,CY,hr1⟩:=hg k A[k].dat (by simp[hk2]);obtain⟨pA,pn,pc,dA,dn,dc,yA,yn,yc,fA,fn,fc,rfl,-⟩:=hr1.cell;obtain⟨b2,o2,cs2,rfl,QB,hrow2,hr2⟩:=hh k B[k].dat (by simp[hk3]);obtain⟨N9,RX,pc2,zU,Qc,MI,Sr,Sw,Sv,JL,JQ,JM,rfl,-⟩:=hr2.cell;refine kP H<|Kc K3<|SQ fun _ K2=>SB<|SR fun _ K4=>Rm M<|Ri ko iQ M M ?_;clear H K3;intro a H;refine aY iQ (cs:=_) H wn M M (fun j v hj=>H.hp.aJ<|aH hgm<|CY j v hj) M ?_;clear H;intro a H;refine dK iQ H wn M ?_;clear H;intro b8 a w Ee H;refine kH H<|Ra M ?_;clear H;intro a H;refine bH iQ 0 (vs:=[_,_,_,_,_,_,_]) H wn M ?_;clear H;intro w H;refine K4 _ _ ?_;clear K4;refine kP H<|SR fun _ K3=>Rm M<|Rm M<|Ri ko iQ M M ?_;clear H;intro a H;refine aY iQ (cs:=_) H wn M M (fun j v hj=>H.hp.aJ<|aH hgm<|hrow2 j v hj) M ?_;clear H;intro a H;refine dK iQ H wn M ?_;clear H;intro b9 a w yY H;refine bH iQ 0 (vs:=[_,_,_,_,_,_,_]) H wn M ?_;clear H;intro w H;refine K3 _ _ ?_;clear K3;refine kP H<|SR fun _ K3=>Rm M ?_;clear H;intro a H;refine aY iQ (cs:=[_,_,_,_,_,_,_]) H wn M M (H.hp.dB 1 M M) M ?_;clear H;intro a H;refine aY iQ (cs:=[_,_,_,_,_,_,_]) H wn M M (H.hp.dB 0 M M) M ?_;clear H;intro a H;refine ow H wn M M (hf k hk2 hk3 _ _ _ _ hgm H.ro (hr1.mono hgm)<|hr2.mono hgm) M ?_;clear H;rintro v29 Jf a w ⟨b29,rfl,Ni⟩ Nn H;refine kH H (Rn M<|Kz K3<|Cd M ?_ ?_)<;>clear H K3
  ·intro kK a H
   exact kP H (SR fun _ K3=>ak K3 M<|LR results239 M fun H=>H.rt ⟨false,M,by simp only[zJ,false_iff];rintro rfl;exact absurd (Ni.2 M) (by simpa using kK)⟩)
  exact Zz
 intro h18 a H
 try have pU:=dF h18
 refine dS ?_;refine K1 _ _ ?_;clear K1;exact kP H (SR fun _ K1=>ak K1 M<|LR results239 M fun H=>H.rt ⟨true,M,by rw[jX O,jX O]at hsame;simpa using hsame⟩)
def Jb(n:Nat):Prop:=∀(G:GH)(w0:World),Hold G w0->∀(A B:List ah)(v u:aj),av G (.sl 11 (A.map ah.dat)) v->av G (.sl 11 (B.map ah.dat)) u->aR A<n->
 Calls prog 40 #[v,u] w0 (bD w0 G fun r G'=>∃b,r=.bool b∧(b=true↔A=B))
theorem azj{n:Nat}(ih:Jb n)(G:GH)(x y:aP)(hz:aR x.flow<n):LH (.func (.func 240) #[] #[]) G x.dat y.dat (x=y):=by
 intro G1 w0 cs cs' hm hG h1 h2;refine kJ (caps:=[]) ayD ?_;obtain⟨pA,pn,pc,dA,dn,dc,yA,yn,yc,fA,fn,fc,rfl,QJ,hf1⟩:=h1.cell;obtain⟨N9,RX,pc2,zU,Qc,MI,Sr,Sw,Sv,JL,JQ,JM,rfl,Kg,hf2⟩:=h2.cell;have he:=aP.eq_iff x y;refine eN [(0,_),(1,_)] func240 M ntmps240 M M hG fun a H=>dw (fun _ K1=>eD (cs:=[_,_,_,_,_,_,_]) H wn M M M fun b2 a w hb2 H=>eD (cs:=[_,_,_,_,_,_,_]) H wn M M M fun b3 a w hb3 H=>kH H<|ak K1 M<|SR fun _ K2=>aV JN aF 1 M M<|aV JN aF 0 M M<|Rc M<|Rm M<|Sp 10 M ?_ ?_)<;>clear H K1
 ·intro h10 a H
  try have lC:=dT h10
  refine kH H<|YF Qk h10 M fun a H=>aY oC (cs:=[_,_,_,_,_]) H (wg H M M h10) M M (H.hp.dB 1 M M) M<|YF Qk h10 M fun a H=>aY oC (cs:=[_,_,_,_,_]) H (wg H M M h10) M M (H.hp.dB 0 M M) M fun a H=>s_call Qf H (wg H M M h10) M (Qg _ _ H.ro x.head y.head _ _ _ _ _ _ QJ Kg) M ?_;rintro vH GH a w rfl Em H;refine kH H (Pt h10 M<|Rm M<|Sp 17 M ?_ ?_)<;>clear H
  ·intro dL a H
   try have lD:=dT dL
   refine kH H<|YF Cr dL M<|YO eG 1 dL M<|YF Cr dL M<|YO eG 0 dL M fun a H=>s_call aay H (wg H M M dL) M (ih _ _ H.ro x.flow y.flow _ _ (hf1.mono Em) (hf2.mono Em) hz) M ?_;rintro vF GF a w ⟨bF,rfl,hbF⟩ Vy H;exact kH H (Pt dL M<|ak K2 M<|LR results240 M fun H=>H.rt ⟨_,M,by rw[<-he];simp_all⟩)
  exact fun dL=>bJ dL M (aU dL M<|Pf dL M<|ak K2 M<|LR results240 M fun H=>H.rt ⟨_,M,by rw[<-he];simp_all⟩)
 exact fun h10=>bJ h10 M (aU h10 M<|Pf h10 M<|Rm M<|bJ M M<|aU M M<|Pf M M<|ak K2 M<|LR results240 M fun H=>H.rt ⟨_,M,by rw[<-he];simp_all⟩)
theorem azs{n:Nat}(ih:Jb n)(hn:n<=4294967297)(G:GH)(x y:aN)(hz:iU x.cells<n):LH (.func (.func 182) #[] #[]) G x.dat y.dat (x=y):=by
 intro G1 w0 cs cs' hm hG h1 h2;refine kJ (caps:=[]) axM ?_;obtain⟨pA,pn,pc,dA,dn,dc,yA,yn,yc,fA,fn,fc,rfl,QJ,hf1⟩:=h1.row;obtain⟨N9,RX,pc2,zU,Qc,MI,Sr,Sw,Sv,JL,JQ,JM,rfl,Kg,hf2⟩:=h2.row;have he:=aN.eq_iff x y;refine eN [(0,_),(1,_)] func182 M ntmps182 M M hG fun a H=>dw<|fun _ K1=>eD (cs:=[_,_,_,_,_,_]) H wn M M M fun b2 a w hb2 H=>eD (cs:=[_,_,_,_,_,_]) H wn M M M fun b3 a w hb3 H=>kH H<|ak K1 M<|SR fun _ K2=>Rf Qj M fun a H=>aY oC (cs:=[_,_,_,_,_]) H wn M M (H.hp.dB 1 M M) M<|Rf Qj M fun a H=>aY oC (cs:=[_,_,_,_,_]) H wn M M (H.hp.dB 0 M M) M fun a H=>s_call Qf H wn M (Qg _ _ H.ro x.head y.head _ _ _ _ _ _ QJ Kg) M ?_;rintro vH GH a w rfl Em H;refine kH H (Rm M<|Sp 10 M ?_ ?_)<;>clear H
 ·intro h10 a H
  try have lC:=dT h10
  refine kH H (YF rT h10 M (YO qD 1 h10 M (YF rT h10 M (YO qD 0 h10 M fun a H=>s_call ayC H (wg H M M h10) M (azl _ _ H.ro x.cells y.cells _ _ _ (hf1.mono Em) (hf2.mono Em)<|fun i h1 h2=>azj ih _ _ _ (by have:=GJ h1;omega)) rfl ?_))));rintro vF GF a w ⟨bF,rfl,hbF⟩ Vy H;exact kH H (Pt h10 M<|ak K2 M<|LR results182 M fun H=>H.rt ⟨_,M,by rw[<-he];simp_all⟩)
 exact fun h10=>bJ h10 M (aU h10 M<|Pf h10 M<|ak K2 M<|LR results182 M fun H=>H.rt ⟨_,M,by rw[<-he];simp_all⟩)
theorem azo{n:Nat}(ih:Jb n)(hn:n<=4294967297)(G:GH)(w0:World)(hG:Hold G w0)(x y:ah)(cs cs':List aj)(h1:bg G x.dat cs)(h2:bg G y.dat cs')(hz:aR x.flow<n)(hr:gB x.rows<n) :
  Calls prog 107 #[.agg cs.toArray,.agg cs'.toArray] w0 (bD w0 G fun u G'=>∃b,u=.bool b∧(b=true↔x=y)):=by
 obtain⟨pA,pn,pc,dA,dn,dc,yA,yn,yc,fA,fn,fc,rA,rn,rc,rfl,QJ,hf1,hw1⟩:=h1.item;obtain⟨N9,RX,pc2,zU,Qc,MI,Sr,Sw,Sv,JL,JQ,JM,rA2,WM,rc2,rfl,Kg,hf2,hw2⟩:=h2.item;have he:=ah.eq_iff x y;have hb:=bytes_beq x.text y.text;refine eN [(0,_),(1,_)] func107 M ntmps107 M M hG fun a H=>dw (fun _ K1=>eD (cs:=[_,_,_,_,_,_,_,_,_,_,_]) H wn M M M fun b2 a w hb2 H=>eD (cs:=[_,_,_,_,_,_,_,_,_,_,_]) H wn M M M fun b3 a w hb3 H=>kH H<|ak K1 M<|SR fun _ K2=>aV iW aF 1 M M<|aV iW aF 0 M M<|Rc M<|Rm M<|Sp 10 M ?_ ?_)<;>clear H K1
 ·intro h10 a H
  try have lC:=dT h10
  refine kH H (YF Fy h10 M<|YO aF 1 h10 M<|YF Fy h10 M<|YO aF 0 h10 M<|YC h10 M<|Pt h10 M<|Rm M<|Sp 17 M ?_ ?_)<;>clear H
  ·intro dL a H
   try have lD:=dT dL
   refine kH H (YF yO dL M<|YO aF 1 dL M<|YF yO dL M<|YO aF 0 dL M<|YC dL M<|Pt dL M<|Rm M<|Sp 24 M ?_ ?_)<;>clear H
   ·intro eY a H
    try have pW:=dT eY
    refine kH H (YF pE eY M<|YO gN 1 eY M<|YF pE eY M<|YO gN 0 eY M fun a H=>BN H (wg H M M eY) M M M<|Pt eY M<|Rm M<|Sp 31 M ?_ ?_)<;>clear H
    ·intro h31 a H
     try have p31:=dT h31
     refine kH H<|YF vG h31 M fun a H=>aY oC (cs:=[_,_,_,_,_]) H (wg H M M h31) M M (H.hp.dB 1 M M) M<|YF vG h31 M fun a H=>aY oC (cs:=[_,_,_,_,_]) H (wg H M M h31) M M (H.hp.dB 0 M M) M fun a H=>s_call Qf H (wg H M M h31) M (Qg _ _ H.ro x.head y.head _ _ _ _ _ _ QJ Kg) M ?_;rintro vH GH a w rfl Em H;refine kH H (Pt h31 M<|Rm M<|Sp 38 M ?_ ?_)<;>clear H
     ·intro jF a H
      try have p38:=dT jF
      refine kH H<|YF uU jF M<|YO eG 1 jF M<|YF uU jF M<|YO eG 0 jF M fun a H=>s_call aay H (wg H M M jF) M (ih _ _ H.ro x.flow y.flow _ _ (hf1.mono Em) (hf2.mono Em) hz) M ?_;rintro vF GF a w ⟨bF,rfl,hbF⟩ Vy H;refine kH H (Pt jF M<|Rm M<|Sp 45 M ?_ ?_)<;>clear H
      ·intro h45 a H
       try have p45:=dT h45
       refine kH H (YF mZ h45 M (YO lX 1 h45 M (YF mZ h45 M (YO lX 0 h45 M fun a H=>s_call axL H (wg H M M h45) M (azn _ _ H.ro x.rows y.rows _ _ _ ((hw1.mono Em).mono Vy) ((hw2.mono Em).mono Vy)<|fun i h1 h2=>azs ih hn _ _ _ (by have:=GL h1;omega)) rfl ?_))));rintro vW GW a w ⟨bW,rfl,hbW⟩ hmW H;exact kH H (Pt h45 M<|ak K2 M<|LR results107 M fun H=>H.rt ⟨_,M,by rw[<-he];simp_all⟩)
      exact fun h45=>bJ h45 M (aU h45 M<|Pf h45 M<|ak K2 M<|LR results107 M fun H=>H.rt ⟨_,M,by rw[<-he];simp_all⟩)
     exact fun jF=>bJ jF M (aU jF M<|Pf jF M<|Rm M<|bJ M M<|aU M M<|Pf M M<|ak K2 M<|LR results107 M fun H=>H.rt ⟨_,M,by rw[<-he];simp_all⟩)
    exact fun h31=>bJ h31 M (aU h31 M<|Pf h31 M<|Rm M<|bJ M M<|aU M M<|Pf M M<|Rm M<|bJ M M<|aU M M<|Pf M M<|ak K2 M<|LR results107 M fun H=>H.rt ⟨_,M,by rw[<-he];simp_all⟩)
   exact fun eY=>bJ eY M (aU eY M<|Pf eY M<|Rm M<|bJ M M<|aU M M<|Pf M M<|Rm M<|bJ M M<|aU M M<|Pf M M<|Rm M<|bJ M M<|aU M M<|Pf M M<|ak K2 M<|LR results107 M fun H=>H.rt ⟨_,M,by rw[<-he];simp_all⟩)
  exact fun dL=>bJ dL M (aU dL M<|Pf dL M<|Rm M<|bJ M M<|aU M M<|Pf M M<|Rm M<|bJ M M<|aU M M<|Pf M M<|Rm M<|bJ M M<|aU M M<|Pf M M<|Rm M<|bJ M M<|aU M M<|Pf M M<|ak K2 M<|LR results107 M fun H=>H.rt ⟨_,M,by rw[<-he];simp_all⟩)
 exact fun h10=>bJ h10 M (aU h10 M<|Pf h10 M<|Rm M<|bJ M M<|aU M M<|Pf M M<|Rm M<|bJ M M<|aU M M<|Pf M M<|Rm M<|bJ M M<|aU M M<|Pf M M<|Rm M<|bJ M M<|aU M M<|Pf M M<|Rm M<|bJ M M<|aU M M<|Pf M M<|ak K2 M<|LR results107 M fun H=>H.rt ⟨_,M,by rw[<-he];simp_all⟩)
theorem azp{n:Nat}(ih:Jb n)(hn:n<=4294967297)(G:GH)(x y:ah)(hz:aR x.flow<n)(hr:gB x.rows<n):LH (.func (.func 107) #[] #[]) G x.dat y.dat (x=y):=by
 intro G1 w0 cs cs' hm hG h1 h2;exact kJ (caps:=[]) axc<|azo ih hn G1 w0 hG x y cs cs' h1 h2 hz hr
theorem azu{n:Nat}(ih:Jb n)(hn:n<=4294967297):Jb (n+1):=by
 intro G w0 hG A B v u hv hu hz;refine eN [(0,_),(1,_)] func40 M ntmps40 M M hG (SR fun _ K1=>ak K1 M (SR fun _ K2=>Rm M (Rm M fun a H=>s_call axb H wn M (azm _ _ H.ro A B _ _ _ hv hu<|fun i h1 h2=>azp ih hn _ _ _ (by have:=GK h1;omega) (by have:=GK h1;omega)) rfl ?_)));rintro v7 G7 a w ⟨b7,rfl,Bt⟩ Ej H;exact kH H<|ak K2 M<|LR results40 M fun H=>H.rt ⟨_,M,Bt⟩
theorem akw:∀n:Nat,n<=4294967298->Jb n
 |0,_=>fun _ _ _ _ _ _ _ _ _ h=>absurd h O
 |n+1,hn=>azu (akw n O) O
theorem azy(G:GH)(w0:World)(hG:Hold G w0)(A B:List ah)(v u:aj)(hv:av G (.sl 11<|A.map ah.dat) v)(hu:av G (.sl 11<|B.map ah.dat) u)(hz:aR A<=4294967296) :
  Calls prog 40 #[v,u] w0 (bD w0 G fun r G'=>∃b,r=.bool b∧(b=true↔A=B)):=akw 4294967298 O G w0 hG A B v u hv hu O
structure jh where
 (f p d y r s1 s2 s3 s4:Option Addr×Nat×Nat)
 (ins move:Int)
abbrev bN(x:Option Addr×Nat×Nat):aj:=.slice x.1 x.2.1 x.2.2
abbrev jh.cells(D:jh):List aj:=[bN D.f,bN D.p,vi D.ins,vi D.move,bN D.d,bN D.y,bN D.r,bN D.s1,bN D.s2,bN D.s3,bN D.s4]
abbrev jh.val(D:jh):aj:=.agg D.cells.toArray
theorem akT:dG prog 59 0 0:=⟨V⟩
theorem UN:dG prog 59 1 1:=⟨V⟩
theorem UO:dG prog 59 2 2:=⟨V⟩
theorem akX:dG prog 59 3 3:=⟨V⟩
theorem akY:dG prog 59 4 4:=⟨V⟩
theorem akZ:dG prog 59 5 5:=⟨V⟩
theorem ala:dG prog 59 6 6:=⟨V⟩
theorem alb:dG prog 59 7 7:=⟨V⟩
theorem alc:dG prog 59 8 8:=⟨V⟩
theorem ald:dG prog 59 9 9:=⟨V⟩
theorem akU:dG prog 59 10 10:=⟨V⟩
theorem wm:Ty prog 4 1 1 [.bool false] false:=⟨V,V⟩
theorem aIr:prog.underlying 4=some .bool:=by kernel_rfl
theorem aaM:dG prog 59 11 11:=⟨V⟩
theorem akV:dG prog 59 12 12:=⟨V⟩
theorem akW:dG prog 59 13 13:=⟨V⟩
abbrev lg(k f a:Int)(it:aj):List aj:=[vi k,vi f,vi a,vi 0,vi 0,vi 0,vi 0,vi 0,vi 0,vi 0,.bool false,it,.slice none 0 0,.slice none 0 0,.slice none 0 0,.slice none 0 0,.slice none 0 0,.slice none 0 0]
structure SH where
 kind:Int
 flow:Int
 at_:Int
 it:Option Addr×Nat×Nat
abbrev SH.cells(x:SH):List aj:=lg x.kind x.flow x.at_ (bN x.it)
def SH.dat(x:SH):List Dat:=x.cells.map .lf
set_option maxHeartbeats 2000000 in
theorem aqy(G:GH)(w0:World)(hG:Hold G w0)(k f t:Int)(A:List ah)(v u:aj)(hv:av G (.sl 11<|A.map ah.dat) v)(hu:av G (.sl 11<|A.map ah.dat) u)(hz:aR A<=4294967296) :
  Calls prog 21 #[.agg (lg k f t v).toArray,.agg (lg k f t u).toArray] w0 (bD w0 G fun r G'=>r=.bool true):=by
 obtain⟨vA,vn,vc,rfl⟩:=hv.form;obtain⟨uA,un,uc,rfl⟩:=hu.form;refine eN [(0,_),(1,_)] func21 M ntmps21 M M hG fun a H=>dw (fun _ K1=>eD (cs:=[_,_,_,_,_,_,_,_,_,_,_,_,_,_,_,_,_,_]) H wn M M M fun b2 a w hb2 H=>eD (cs:=[_,_,_,_,_,_,_,_,_,_,_,_,_,_,_,_,_,_]) H wn M M M fun b3 a w hb3 H=>kH H<|ak K1 M<|SR fun _ K2=>aV akT aF 1 M M<|aV akT aF 0 M M<|Rc M<|Rm M<|Sp 10 M ?_ ?_)<;>clear H K1
 ·refine fun h10=>YF UN h10 M<|YO aF 1 h10 M<|YF UN h10 M<|YO aF 0 h10 M<|YC h10 M<|Pt h10 M<|Rm M<|Sp 17 M ?_ ?_
  ·refine fun dL=>YF UO dL M<|YO aF 1 dL M<|YF UO dL M<|YO aF 0 dL M<|YC dL M<|Pt dL M<|Rm M<|Sp 24 M ?_ ?_
   ·refine fun eY=>YF akX eY M<|YO aF 1 eY M<|YF akX eY M<|YO aF 0 eY M<|YC eY M<|Pt eY M<|Rm M<|Sp 31 M ?_ ?_
    ·refine fun h31=>YF akY h31 M<|YO aF 1 h31 M<|YF akY h31 M<|YO aF 0 h31 M<|YC h31 M<|Pt h31 M<|Rm M<|Sp 38 M ?_ ?_
     ·refine fun jF=>YF akZ jF M<|YO aF 1 jF M<|YF akZ jF M<|YO aF 0 jF M<|YC jF M<|Pt jF M<|Rm M<|Sp 45 M ?_ ?_
      ·refine fun h45=>YF ala h45 M<|YO aF 1 h45 M<|YF ala h45 M<|YO aF 0 h45 M<|YC h45 M<|Pt h45 M<|Rm M<|Sp 52 M ?_ ?_
       ·refine fun kE=>YF alb kE M<|YO aF 1 kE M<|YF alb kE M<|YO aF 0 kE M<|YC kE M<|Pt kE M<|Rm M<|Sp 59 M ?_ ?_
        ·refine fun jv=>YF alc jv M<|YO aF 1 jv M<|YF alc jv M<|YO aF 0 jv M<|YC jv M<|Pt jv M<|Rm M<|Sp 66 M ?_ ?_
         ·refine fun FI=>YF ald FI M<|YO aF 1 FI M<|YF ald FI M<|YO aF 0 FI M<|YC FI M<|Pt FI M<|Rm M<|Sp 73 M ?_ ?_
          ·refine fun Af=>YF akU Af M<|YO wm 1 Af M<|YF akU Af M<|YO wm 0 Af M fun a H=>aG1 aIr H (wg H M M Af) M M M<|Pt Af M<|Rm M<|Sp 80 M ?_ ?_
           ·refine fun h80=>YF aaM h80 M (YO eG 1 h80 M (YF aaM h80 M (YO eG 0 h80 M fun a H=>s_call aay H (wg H M M h80) M (azy _ _ H.ro A A _ _ (by assumption) (by assumption) hz) rfl ?_)));rintro v85 G85 a w ⟨b85,rfl,aBN⟩ aCL H;rw[aBN.2 M]at H;refine kH H (Pt h80 M<|Rm M<|Sp 87 M ?_ ?_)<;>clear H
            ·exact fun h87=>YF akV h87 M<|YO lX 1 h87 M<|YL jI h87 M<|YF akV h87 M<|YO lX 0 h87 M<|YL jI h87 M fun a H=>EC _ H (wg H M M h87) M M M O O M<|YF akW h87 M<|YO qD 1 h87 M<|YL ko h87 M fun a H=>EC _ H (wg H M M h87) M M M O O M<|YF akW h87 M<|YO qD 0 h87 M<|YL ko h87 M fun a H=>EC _ H (wg H M M h87) M M M O O M<|YC h87 M<|Pt h87 M<|ak K2 M<|LR results21 M fun H=>H.rt M
            intro h87 a H;exact absurd h87 (by simp)
           intro h80 a H;exact absurd h80 (by simp)
          intro Af a H;exact absurd Af (by simp)
         intro FI a H;exact absurd FI (by simp)
        intro jv a H;exact absurd jv (by simp)
       intro kE a H;exact absurd kE (by simp)
      intro h45 a H;exact absurd h45 (by simp)
     intro jF a H;exact absurd jF (by simp)
    intro h31 a H;exact absurd h31 (by simp)
   intro eY a H;exact absurd eY (by simp)
  intro dL a H;exact absurd dL (by simp)
 intro h10 a H;exact absurd h10 (by simp)
theorem aat:aW 210:=aX func210 M
theorem Xf:Ty prog 101 3 16 [.bool false,.bool false,.int .i64 0] true:=⟨V,V⟩
theorem aHY:sO prog 169 [(0,1),(1,3)] [.slice none 0 0,.bool false,.bool false,.int .i64 0]:=⟨V,V⟩
theorem Qh:dG prog 101 2 2:=⟨V⟩
theorem La:sO prog 101 [(0,1),(1,1),(2,1)] [.bool false,.bool false,.int .i64 0]:=⟨V,V⟩
theorem aaG:dG prog 101 1 1:=⟨V⟩
theorem wH:dG prog 38 0 0:=⟨V⟩
theorem axx:aW 155:=aX func155 M
theorem Ux:aW 209:=aX func209 M
structure eU where
 id:Int
 items:List ah
 body:Bool
 note:Bool
 tables:Int
mutual
def qh(note:Bool)(t:Int):ah->List eU
 |.mk k _ i _ _ f r=>if k=6 then⟨i,f,false,true,t⟩::iD true t f else if k=7 then kR note t r else[]
def iD(note:Bool)(t:Int):List ah->List eU
 |[]=>[]
 |x::l=>qh note t x++iD note t l
def kR(note:Bool)(t:Int):List aN->List eU
 |[]=>[]
 |r::l=>qW note t r++kR note t l
def qW(note:Bool)(t:Int):aN->List eU
 |.mk _ cs=>kX note t cs
def kX(note:Bool)(t:Int):List aP->List eU
 |[]=>[]
 |c::l=>qg note t c++kX note t l
def qg(note:Bool)(t:Int):aP->List eU
 |.mk i _ f=>⟨i,f,false,note,t+1⟩::iD note (t+1) f
end
theorem aIT(note:Bool)(t:Int)(x:ah):qh note t x=if x.kind=6 then⟨x.id,x.flow,false,true,t⟩::iD true t x.flow else if x.kind=7 then kR note t x.rows else[]:=by cases x;rw[qh];rfl
theorem aIW(note:Bool)(t:Int)(x:aN):qW note t x=kX note t x.cells:=by cases x;rw[qW];rfl
theorem aIQ(note:Bool)(t:Int)(x:aP):qg note t x=⟨x.id,x.flow,false,note,t+1⟩::iD note (t+1) x.flow:=by cases x;rw[qg];rfl
def FC(a:eU):AP:=fun args g=>∃v,args=[vi a.id,.agg #[v,.bool a.body,.bool a.note,vi a.tables]]∧av g (.sl 11 (a.items.map ah.dat)) v
def Yn(n:Nat):Prop:=∀(fv:aj)(Gi:GH)(xs:List AP)(J:Nat->GH->OL->Prop)(Jx:GH->OL->Prop)(G:GH)(L:OL)(w0:World)(j:Nat)(l:List ah)(id:Int)(body note:Bool)(t:Int)(v:aj),
 (∀b o,Gi b=some o->G b=some o)->OQ prog fv Gi xs J Jx->GX J->Ma Jx->J j G L->fZ G L w0->av G (.sl 11 (l.map ah.dat)) v->aR l<n->0<=t->t+aR l<=4294967296->(∀i a,(⟨id,l,body,note,t⟩::iD note t l)[i]?=some a->xs[j+i]?=some (FC a))->
 Calls prog 210 #[vi id,v,.agg #[.bool body,.bool note,vi t],fv] w0 (fG w0 G L fun u G' L'=>∃b,u=.bool b∧(b=true->J (j+((iD note t l).length+1)) G' L')∧(b=false->Jx G' L'))
theorem Tq {p:Prop} (h:p:=by
 first
  |exact H.hp.lU (L':=aeG) (by repeat(first|exact nW _|apply List.Sublist.cons)) ⟨_,M,fun e=>(by cases e),fun _=>hb2 (by simpa using h21)⟩
  |exact H.hp.lU (L':=SX) (by repeat(first|exact nW _|apply List.Sublist.cons)) ⟨_,M,fun e=>(by cases e),fun _=>hb4 (by simpa using xS)⟩
  |exact H.hp.lU (L':=aeI) (by repeat(first|exact nW _|apply List.Sublist.cons)) ⟨_,M,fun e=>(by cases e),fun _=>hb6 (by simpa using yU)⟩
  | exact H.hp.lU (L':=Lt) (by repeat (first|exact nW _|apply List.Sublist.cons)) ⟨_,M,fun _=>(by rw [mh O,iD] at gy;have:=gy.len;simp only [List.length_nil,oZ] at this;rw [<- this];exact gy.now),fun e=>(by cases e)⟩):p:=h
set_option maxHeartbeats 1000000 in
theorem aIZ{n:Nat}(ih:Yn n)(hn:n<=4294967296):Yn (n+1):=by
 intro fv Gi xs J Jx G L w0 j0 l id body note t v hGi hcb wK hJx hJ0 hO hv hz ht0 ht1 hx0;obtain⟨A,c,rfl,hc1,hc2,hg⟩:=hv.slice;rw[bM]at *;have hll:=wo l;have abV:Now xs FC J (j0+((iD note t l).length+1)) j0 (⟨id,l,body,note,t⟩::iD note t l) G L:=⟨hJ0,hx0,M⟩;refine iY (N:=74) (T:=[(0,_),(1,_),(2,_),(3,_)]) func210 M ntmps210 M M hO ?_;intro a H;refine dw<|fun _ K1=>?_;refine eD (cs:=[_,_,_]) H wn M M M ?_;clear H;intro b6 a w hb6 H;refine kH H<|ak K1 M<|SQ fun _ K2=>SR fun _ K3=>Rm M<|Rm M<|Rm M ?_;clear H K1;intro a H;refine aY Xf (cs:=[_,_,_]) H wn M M (H.hp.dB 0 M M) M ?_;clear H;intro a H;refine jM aHY [_,_,_,_] H wn M M M M ?_;clear H;intro a H;refine BM (Li:=[_]) (L:=L) H wn M M (hcb _ _ _ _ _ ⟨_,abV.head,_,M,hv⟩ hGi abV.now<|Hp.owns (Li:=[_]) H.hp) M ?_;clear H;rintro v20 Jd aeG a w ⟨b20,rfl,hb1,hb2⟩ Ei H;refine kH H (Rn M<|Kz K3<|Cd M ?_ ?_)<;>clear H K3
 ·intro h21 a H
  try have sG:=dT h21
  refine kP H<|SR fun _ K1=>ak K1 M ?_;clear H K1;intro a H;refine lr H results210 M ?_
  exact Tq
 intro h21 a H
 try have sG:=dF h21
 refine kP H<|Kc K2<|SQ fun _ K1=>SR fun _ K3=>Rm M<|Rl dM M<|Rm M<|Kz K3<|SB ?_;clear H K2 K3;intro a H;skip;refine dY (ι:=Nat×Nat×OL×GH) (Tc:=[(3,_),(6,_),(22,_),(23,_)]) (Lc:=[(_,_)]) (fun gh=>[(24,vi gh.1)]) (fun gh=>[]++gh.2.2.1) (fun gh=>gh.2.2.2) (fun gh=>gh.1<=l.length∧(∀b o,G b=some o->gh.2.2.2 b=some o)∧Now xs FC J (j0+((iD note t l).length+1)) gh.2.1 (iD note t<|l.drop gh.1) gh.2.2.2 gh.2.2.1) (fun gh=>l.length-gh.1) ((0,j0+1,aeG,Jd)) (by exact H.sub ⟨M,M,M,M,M,aC⟩) ?_ ?_
 ·exact⟨O,Ei,abV.step<|hb1 (by simpa using h21)⟩
 clear H;rintro⟨k,j1,Lt,g⟩ a w hI H;dsimp only at hI H;obtain⟨hk,hgm,gy⟩:=hI;dsimp only[lca,bq]at H;refine kP H (SR fun _ K2=>Rc M<|Kz K2<|SQ fun _ K3=>Cd M ?_ ?_)<;>clear H K2
 ·intro oK a H
  try have p25:=dT oK
  have hk2:k<l.length:=by omega
  obtain⟨b,o,pA,pn,pc,dA,dn,dc,yA,yn,yc,fA,fn,fc,rA,rn,rc,rfl,hrow,hhd,hfl,hrw⟩:=vI hk2 hg;replace hrow:=fun j u hj=>aH hgm<|hrow j u hj;have hrn:=hrw.len;rw[bM]at hrn;subst hrn;have hrs:=ER l[k].rows;have hsz1:=GK hk2;rw[mg hk2]at gy
  simp only[iD,aIT]at gy
  refine kP H<|Kc K3<|SQ fun _ K2=>SB<|SR fun _ K4=>Ri dM bL M M ?_;clear H K3;intro a H;refine aY bL (cs:=[_,_,_,_,_,_,_,_,_,_,_]) H wn M M (fun j v hj=>H.hp.aJ<|hrow j v hj) M ?_;clear H;intro a H;refine dK bL H wn M ?_;clear H;intro b10 a w abn H;refine bH bL 0 (vs:=[_,_,_,_,_,_,_,_,_,_,_]) H wn M ?_;clear H;intro w H;refine K4 _ _ ?_;clear K4;refine kP H (SR fun _ K3=>aV iW aF 0 M M<|Kz K3<|SB<|SR fun _ K4=>Rc M<|ak K4 M<|Cd M ?_ ?_)<;>clear H K3 K4
  ·intro kK a H
   try have p30:=dT kK
   rw[ay p30]at gy;refine kP H<|SR fun _ K3=>aV yO aF 0 M M<|aV uU eG 0 M M<|aV Qh aF 1 M M ?_;clear H;intro a H;refine jM La [_,_,_] H wn M M M M ?_;clear H;intro a H;refine kH H<|Rm M ?_;clear H;intro a H;refine gM aat (Li:=[_,_]) (L:=Lt) H wn M (ih fv Gi xs J Jx _ _ _ j1 l[k].flow l[k].id false true t _ (fun b o h=>hgm b o<|hGi b o h) hcb wK hJx gy.now (Hp.owns (Li:=[_,_]) H.hp) (hfl.mono hgm) O ht0 O gy.part) M ?_;clear H;rintro v40 OX SX a w ⟨b40,rfl,hb3,hb4⟩ FP H;refine kH H (Rn M<|Kz K3<|Cd M ?_ ?_)<;>clear H K3
   ·intro xS a H
    try have p41:=dT xS
    refine kP H<|SR fun _ K3=>ak K3 M ?_;clear H K3;intro a H;refine lr H results210 M ?_
    exact Tq
   intro xS a H
   try have p41:=dF xS
   refine kP H<|Kc K2<|SC<|Rd M<|Rm M ?_;clear H K2;intro a H;refine aI ?_;refine dO ((k+1,j1+((iD true t l[k].flow).length+1),SX,OX)) (by exact(H.dR (Pl:=[_,_]) (dH:=[_]) [1] Z M).sub ⟨M,M,M,M,M,aC⟩) ?_
   (try dsimp only);exact⟨O,fun b o h=>FP b o (hgm b o h),gy.jump<|hb3 (by simpa using xS)⟩
  intro kK a H
  try have p30:=dF kK
  refine kP H (SR fun _ K3=>Rc M<|ak K3 M<|Cd M ?_ ?_)<;>clear H K3
  ·intro jP a H
   try have p42:=dT jP
   rw[au p30,ay p42]at gy;refine kP H<|SR fun _ K3=>aV mZ lX 0 M M<|Rl jI M<|Rm M<|Kz K3<|SB ?_;clear H K3;intro a H;skip;refine dY (ι:=Nat×Nat×OL×GH) (Tc:=[(3,_),(6,_),(22,_),(23,_),(24,_),(45,_),(46,_)]) (Lc:=[(_,_),(_,_)]) (fun gh=>[(47,vi gh.1)]) (fun gh=>[]++gh.2.2.1) (fun gh=>gh.2.2.2) (fun gh=>gh.1<=l[k].rows.length∧(∀b o,G b=some o->gh.2.2.2 b=some o)∧Now xs FC J (j0+((iD note t l).length+1)) gh.2.1 (kR note t (l[k].rows.drop gh.1)++iD note t (l.drop<|k+1)) gh.2.2.2 gh.2.2.1) (fun gh=>l[k].rows.length-gh.1) ((0,j1,Lt,g)) (by exact H.sub ⟨M,M,M,M,M,M,M,M,aC⟩) ?_ ?_
   ·exact⟨O,hgm,gy⟩
   clear H;rintro⟨rk,j3,Lt3,g3⟩ a w hI H;dsimp only at hI H;obtain⟨Im,Aj,pK⟩:=hI;dsimp only[lca,bq]at H;refine kP H (SR fun _ K3=>Rc M<|Kz K3<|SQ fun _ K4=>Cd M ?_ ?_)<;>clear H K3
   ·intro h48 a H
    try have p48:=dT h48
    have hk3:rk<l[k].rows.length:=by omega
    obtain⟨b2,o2,qA,qn,qc,eA,en,ec,zA,zn,zc,cA,cn,cc,rfl,hrow,zk,hcl⟩:=Gg hk3 hrw.at_;replace hrow:=fun j u hj=>aH Aj<|hrow j u hj;have hcn:=hcl.len;rw[bM]at hcn;subst hcn;have hsz2:=GL hk3;have hcs:=EP l[k].rows[rk].cells;rw[mg hk3]at pK
    simp only[kR,aIW,iG]at pK
    refine kP H<|Kc K4<|SQ fun _ K3=>SB<|SR fun _ K5=>Ri jI iC M M ?_;clear H K4;intro a H;refine aY iC (cs:=[_,_,_,_,_,_]) H wn M M (fun j v hj=>H.hp.aJ<|hrow j v hj) M ?_;clear H;intro a H;refine dK iC H wn M ?_;clear H;intro b12 a w CP H;refine bH iC 0 (vs:=[_,_,_,_,_,_]) H wn M ?_;clear H;intro w H;refine K5 _ _ ?_;clear K5;refine kP H<|SR fun _ K4=>aV rT qD 0 M M<|Rl ko M<|Rm M<|Kz K4<|SB ?_;clear H K4;intro a H;skip;refine dY (ι:=Nat×Nat×OL×GH) (Tc:=[(3,_),(6,_),(22,_),(23,_),(24,_),(45,_),(46,_),(47,_),(52,_),(53,_)]) (Lc:=[(_,_),(_,_),(_,_)]) (fun gh=>[(54,vi gh.1)]) (fun gh=>[]++gh.2.2.1) (fun gh=>gh.2.2.2) (fun gh=>gh.1<=l[k].rows[rk].cells.length∧(∀b o,G b=some o->gh.2.2.2 b=some o)∧Now xs FC J (j0+((iD note t l).length+1)) gh.2.1 (kX note t (l[k].rows[rk].cells.drop gh.1)++(kR note t (l[k].rows.drop<|rk+1)++iD note t (l.drop<|k+1))) gh.2.2.2 gh.2.2.1) (fun gh=>l[k].rows[rk].cells.length-gh.1) ((0,j3,Lt3,g3)) (by exact H.sub ⟨M,M,M,M,M,M,M,M,M,M,M,aC⟩) ?_ ?_
    ·exact⟨O,Aj,pK⟩
    clear H;rintro⟨ck,j4,Lt4,g4⟩ a w hI H;dsimp only at hI H;obtain⟨hck,QI,qK⟩:=hI;dsimp only[lca,bq]at H;refine kP H (SR fun _ K4=>Rc M<|Kz K4<|SQ fun _ K5=>Cd M ?_ ?_)<;>clear H K4
    ·intro rU a H
     try have p55:=dT rU
     have hk4:ck<l[k].rows[rk].cells.length:=by omega
     obtain⟨b3,o3,sA,sn,sc,tA,tn,tc,uA,un,uc,gA,gn,gc,rfl,hrow,hch,hcf⟩:=Hr hk4 hcl.at_;replace hrow:=fun j u hj=>aH QI<|hrow j u hj;have NH:=GJ hk4;rw[mg hk4]at qK
     simp only[kX,aIQ,iG]at qK
     refine kP H<|Kc K5<|SQ fun _ K4=>SB<|SR fun _ K6=>Ri ko iQ M M ?_;clear H K5;intro a H;refine aY iQ (cs:=[_,_,_,_,_,_,_]) H wn M M (fun j v hj=>H.hp.aJ<|hrow j v hj) M ?_;clear H;intro a H;refine dK iQ H wn M ?_;clear H;intro b14 a w Nh H;refine bH iQ 0 (vs:=[_,_,_,_,_,_,_]) H wn M ?_;clear H;intro w H;refine K6 _ _ ?_;clear K6;refine kP H<|SR fun _ K5=>aV JN aF 0 M M<|aV Cr eG 0 M M<|aV aaG wm 3 M M<|aV Qh aF 3 M M<|Rd M ?_;clear H;intro a H;refine jM La [_,_,_] H wn M M M M ?_;clear H;intro a H;refine kH H<|Rm M ?_;clear H;intro a H;refine gM aat (Li:=[_,_,_,_]) (L:=Lt4) H wn M (ih fv Gi xs J Jx _ _ _ j4 l[k].rows[rk].cells[ck].flow l[k].rows[rk].cells[ck].id false note (t+1) _ (fun b o h=>QI b o<|hGi b o h) hcb wK hJx qK.now (Hp.owns (Li:=[_,_,_,_]) H.hp) (hcf.mono QI) O O O qK.part) M ?_;clear H;rintro v69 G69 aeI a w ⟨b69,rfl,hb5,hb6⟩ aCK H;refine kH H (Rn M<|Kz K5<|Cd M ?_ ?_)<;>clear H K5
     ·intro yU a H
      try have p70:=dT yU
      refine kP H<|SR fun _ K5=>ak K5 M ?_;clear H K5;intro a H;refine lr H results210 M ?_
      exact Tq
     intro yU a H
     try have p70:=dF yU
     refine kP H<|Kc K4<|SC<|Rd M<|Rm M ?_;clear H K4;intro a H;refine aI ?_;refine dO ((ck+1,j4+((iD note (t+1) l[k].rows[rk].cells[ck].flow).length+1),aeI,G69)) (by exact(H.dR (Pl:=[_,_,_,_]) (dH:=[_,_,_]) [1,2,3] Z M).sub ⟨M,M,M,M,M,M,M,M,M,M,M,aC⟩) ?_
     (try dsimp only);exact⟨O,fun b o h=>aCK b o (QI b o h),qK.jump<|hb5 (by simpa using yU)⟩
    intro rU a H
    try have p55:=dF rU
    refine dS ?_;refine K3 _ _ ?_;clear K3;refine kP H<|SC<|Rd M<|Rm M ?_;clear H;intro a H;refine aI ?_;refine dO ((rk+1,j4,Lt4,g4)) (by exact(H.dR (Pl:=[_,_,_]) (dH:=[_,_]) [1,2] Z M).sub ⟨M,M,M,M,M,M,M,M,aC⟩) ?_
    (try dsimp only);exact⟨O,QI,by rw[mh O,kX,fQ]at qK;exact qK⟩
   intro h48 a H
   try have p48:=dF h48
   refine dS ?_;refine K2 _ _ ?_;clear K2;refine kP H<|SC<|Rd M<|Rm M ?_;clear H;intro a H;refine aI ?_;refine dO ((k+1,j3,Lt3,g3)) (by exact(H.dR (Pl:=[_,_]) (dH:=[_]) [1] Z M).sub ⟨M,M,M,M,M,aC⟩) ?_
   (try dsimp only);exact⟨O,Aj,by rw[mh O,kR,fQ]at pK;exact pK⟩
  intro jP a H
  try have p42:=dF jP
  refine kP H<|Kc K2<|SC<|Rd M<|Rm M ?_;clear H K2;intro a H;refine aI ?_;refine dO ((k+1,j1,Lt,g)) (by exact(H.dR (Pl:=[_,_]) (dH:=[_]) [1] Z M).sub ⟨M,M,M,M,M,aC⟩) ?_
  (try dsimp only);exact⟨O,hgm,by rw[au p30,au p42,fQ]at gy;exact gy⟩
 intro oK a H
 try have p25:=dF oK
 refine dS ?_;refine K1 _ _ ?_;clear K1;refine kP H<|SR fun _ K1=>ak K1 M ?_;clear H K1;intro a H;refine lr H results210 M ?_
 exact Tq
theorem asa:∀n:Nat,n<=4294967297->Yn n
 |0,_=>fun _ _ _ _ _ _ _ _ _ _ _ _ _ _ _ _ _ _ _ _ _ _ h=>absurd h O
 |n+1,hn=>aIZ (asa n O) O
def gJ(l:List ah):List eU:=⟨0,l,true,false,0⟩::iD false 0 l
theorem aAo{G:GH}{ba bl bp:Nat}{l:List ah}{v:aj}{id t:Int}{body note:Bool}(h1:aJ G ba 0=some (vi id))(h2:aJ G bl 0=some v)(h3:G bp=some (.cells #[.bool body,.bool note,vi t] 101 (0,0)))(hv:av G (.sl 11<|l.map ah.dat) v)(hz:aR l<=4294967296)(ht0:0<=t)(ht1:t+aR l<=4294967296) :
  Iter prog G (.func (.func 209) #[] #[aK ba 0,aK bl 0,aK bp 0]) ((⟨id,l,body,note,t⟩::iD note t l).map FC):=by
 intro J Jx fv G1 L w0 hfv hGi wK hJx hJ hO hcb;refine kJ (caps:=[aK ba 0,aK bl 0,aK bp 0]) Ux ?_;replace h1:=aH hGi h1;replace h2:=aH hGi h2
 have hrow:∀j u,[.bool body,.bool note,vi t][j]?=some u->aJ G1 bp (0+j)=some u:=by
  intro j u hj;refine aH hGi ?_
  unfold aJ;rw[h3];simpa using hj
 refine iY (N:=10) (T:=[(0,_),(1,_),(2,_),(3,_)]) func209 M ntmps209 M M hO (SC (Rg aF M (by assumption) (Rg eG M (by assumption) fun a H=>aY Xf (cs:=[_,_,_]) H wn M M (fun j v hj=>H.hp.aJ<|hrow j v hj) M (Rm M fun a H=>gM aat (Li:=[]) (L:=L) H wn M (asa 4294967297 O _ G1 _ J Jx G1 _ _ 0 l id body note t _ (fun _ _ h=>h) hcb wK hJx hJ (Hp.owns (Li:=[]) H.hp) (hv.mono hGi) O ht0 ht1 (fun i a h=>by rw[fB,ql,h];rfl)) rfl ?_))));rintro v9 G9 L9 a w ⟨b9,rfl,h1,h2⟩ ze H;refine aI ((leave0 H results209 ?_).2)
 cases b9
 ·exact H.hp.gX (.inr<|h2 M)
 exact H.hp.gX (.inl (by simpa using h1 M))
theorem aAp(G:GH)(w0:World)(hG:Hold G w0)(l:List ah)(v:aj)(id t:Int)(body note:Bool)(hv:av G (.sl 11<|l.map ah.dat) v)(hz:aR l<=4294967296)(ht0:0<=t)(ht1:t+aR l<=4294967296) :
  Calls prog 155 #[vi id,v,.agg #[.bool body,.bool note,vi t]] w0 (bD w0 G fun u G'=>∃ba bl bp,u=.func (.func 209) #[] #[aK ba 0,aK bl 0,aK bp 0]∧Iter prog G' u ((⟨id,l,body,note,t⟩::iD note t l).map FC)):=by
 obtain⟨A,c,rfl,hc1,hc2,hg⟩:=hv.slice;refine eN [(0,_),(1,_),(2,_)] func155 M ntmps155 M M hG fun a H=>dw<|fun _ K1=>eD (cs:=[_]) H wn M M M fun b3 a w hb3 H=>eD (cs:=[_]) H wn M M M fun b4 a w hb4 H=>eD (cs:=[_,_,_]) H wn M M M fun b5 a w hb5 H=>kH H<|ak K1 M<|SR fun _ K2=>fun a H=>wU H wn M M<|ak K2 M fun a H=>eH ?_;obtain⟨G2,hm2,hb5,H⟩:=H.eX;obtain⟨G3,Kh,hb4,H⟩:=H.eX;obtain⟨G4,Kj,hb3,H⟩:=H.eX;exact lv H results155 M (H.rt ⟨b3,b4,b5,M,aAo (by unfold aJ;rw[hb3];rfl) (aH Kj (by unfold aJ;rw[hb4];rfl)) (Kj _ _<|Kh _ _ hb5) (hv.mono fun b o h=>Kj _ _<|Kh _ _<|hm2 _ _ h) hz ht0 ht1⟩)
theorem adh(G:GH)(w0:World)(hG:Hold G w0)(D:jh)(l:List ah)(hv:av G (.sl 11<|l.map ah.dat) (bN D.f))(hz:aR l<=4294967296) :
  Calls prog 79 #[D.val] w0 (bD w0 G fun u G'=>∃ba bl bp,u=.func (.func 209) #[] #[aK ba 0,aK bl 0,aK bp 0]∧Iter prog G' u ((gJ l).map FC)):=by
 refine eN [(0,_)] func79 M ntmps79 M M hG fun a H=>dw<|fun _ K1=>eD (cs:=[_,_,_,_,_,_,_,_,_,_,_]) H wn M M M fun b1 a w hb1 H=>kH H<|ak K1 M<|SR fun _ K2=>aV wH eG 0 M M fun a H=>jM La [_,_,_] H wn M M M M fun a H=>s_call axx H wn M (aAp _ _ H.ro l _ 0 0 true false hv hz O O) M ?_;rintro v6 G6 a w ⟨ba,bl,bp,rfl,hit⟩ Kl H;exact kH H<|ak K2 M<|LR results79 M fun H=>H.rt ⟨ba,bl,bp,M,hit⟩
theorem jc:Ty prog 38 11 232 [.slice none 0 0,.slice none 0 0,.int .i64 0,.int .i64 0,.slice none 0 0,.slice none 0 0,.slice none 0 0,.slice none 0 0,.slice none 0 0,.slice none 0 0,.slice none 0 0] true:=⟨V,V⟩
theorem aaE:aW 79:=aX func79 M
theorem Xh:Ty prog 169 4 40 [.slice none 0 0,.bool false,.bool false,.int .i64 0] true:=⟨V,V⟩
theorem akH:dG prog 169 0 0:=⟨V⟩
mutual
theorem aIV{note:Bool}{t:Int}{f:eU}:∀{x:ah},f∈qh note t x->aR f.items<bY x.dat
 |.mk k c i tx h fl r,hf=>by
  have h4:=lY (.mk k c i tx h fl r)
  simp only[ah.text,ah.head,ah.flow,ah.rows]at h4
  rw[qh]at hf
  split at hf
  ·rcases iL.1 hf with rfl|hf
   ·show aR fl<_;omega
   have:=Xw hf;omega
  split at hf
  ·have:=arZ hf;omega
  cases hf
theorem Xw{note:Bool}{t:Int}{f:eU}:∀{l:List ah},f∈iD note t l->aR f.items<=aR l
 |[],hf=>by simp[iD]at hf
 |x::l,hf=>by
  rw[iD]at hf
  simp only[aR,dV,fE]
  rcases iF.1 hf with hf|hf
  ·have:=aIV hf;simp only[aR]at this;omega
  have:=Xw hf;simp only[aR]at this;omega
theorem arZ{note:Bool}{t:Int}{f:eU}:∀{l:List aN},f∈kR note t l->aR f.items<=gB l
 |[],hf=>by simp[kR]at hf
 |x::l,hf=>by
  rw[kR]at hf
  simp only[gB,dV,fE]
  rcases iF.1 hf with hf|hf
  ·have:=aIY hf;simp only[aR]at *;omega
  have:=arZ hf;simp only[aR,gB]at *;omega
theorem aIY{note:Bool}{t:Int}{f:eU}:∀{x:aN},f∈qW note t x->aR f.items<=bY x.dat
 |.mk h cs,hf=>by
  have h4:=zC (.mk h cs)
  simp only[aN.head,aN.cells]at h4
  rw[qW]at hf;have:=arW hf;omega
theorem arW{note:Bool}{t:Int}{f:eU}:∀{l:List aP},f∈kX note t l->aR f.items<=iU l
 |[],hf=>by simp[kX]at hf
 |x::l,hf=>by
  rw[kX]at hf
  simp only[iU,dV,fE]
  rcases iF.1 hf with hf|hf
  ·have:=aIS hf;simp only[aR]at *;omega
  have:=arW hf;simp only[aR,iU]at *;omega
theorem aIS{note:Bool}{t:Int}{f:eU}:∀{x:aP},f∈qg note t x->aR f.items<=bY x.dat
 |.mk i h fl,hf=>by
  have h4:=AU (.mk i h fl)
  simp only[aP.head,aP.flow]at h4
  rw[qg]at hf
  rcases iL.1 hf with rfl|hf
  ·show aR fl<=_;omega
  have:=Xw hf;omega
end
theorem Qq{f:eU}{l:List ah}(h:f∈gJ l):aR f.items<=aR l:=by
 rcases iL.1 h with rfl|h
 ·exact eP _
 exact Xw h
def iZ(l:List ah)(id:Int):Option (List ah):=((gJ l).find? fun f=>decide (f.id=id)).map eU.items
theorem aaU{f:List ah}{l:List ah}{id:Int}(h:iZ l id=some f):aR f<=aR l:=by
 obtain⟨a,ha,rfl⟩:=nK.1 h;exact Qq<|List.mem_of_find?_eq_some ha
theorem alh{α:Type}{p:α->Bool}{A:List α}{k:Nat}(hk:k<A.length)(h:(A.take k).find? p=none)(hp:p A[k]=false):(A.take<|k+1).find? p=none:=by
 rw[ji hk,List.find?_append,h]
 simp[hp]
theorem aAd{α:Type}{p:α->Bool}{A:List α}{k:Nat}(hk:k<A.length)(h:(A.take k).find? p=none)(hp:p A[k]=true):A.find? p=some A[k]:=by
 have e:A.find? p=(A.take k++A.drop k).find? p:=by rw[List.take_append_drop]
 rw[e,List.find?_append,h,mg hk,List.find?_cons,hp]
 rfl
theorem alg{α:Type}{p:α->Bool}{A:List α}(h:(A.take A.length).find? p=none):A.find? p=none:=by rwa[oI]at h
theorem MX{A:List eU}{k:Nat}{args:List aj}{g:GH}(h:zD (A.map FC) k args g):∃(hk:k<A.length)(a:Option Addr)(n c:Nat),args=[vi A[k].id,.agg #[.slice a n c,.bool A[k].body,.bool A[k].note,vi A[k].tables]]∧av g (.sl 11<|A[k].items.map ah.dat) (.slice a n c):=by
 obtain⟨p,hp,hargs⟩:=h;rw[ql]at hp;obtain⟨q,hq,rfl⟩:=nK.1 hp;obtain⟨hk,rfl⟩:=jJ.1 hq;obtain⟨v,h1,h2⟩:=hargs;obtain⟨a,n,c,rfl⟩:=h2.form;exact⟨hk,a,n,c,h1,h2⟩
theorem UY(G:GH)(w0:World)(hG:Hold G w0)(D:jh)(l:List ah)(id:Int)(hv:av G (.sl 11<|l.map ah.dat) (bN D.f))(hz:aR l<=4294967296) :
  Calls prog 61 #[D.val,vi id] w0 (bD w0 G fun u G'=>∃v,u=.tuple #[v,.bool (iZ l id).isSome]∧av G' (.sl 11 (((iZ l id).getD []).map ah.dat)) v):=by
 refine eN [(0,_),(1,_)] func61 M ntmps61 M M hG fun a H=>dw<|fun _ K1=>eD (cs:=[_,_,_,_,_,_,_,_,_,_,_]) H wn M M M fun b2 a w hb2 H=>eD (cs:=[_]) H wn M M M fun b3 a w hb3 H=>dK eG H wn M fun b4 a w hb4 H=>dK wm H wn M fun b5 a w hb5 H=>K1 _ _<|bU<|fun _ K1=>dw<|fun _ K2=>aY jc (cs:=[_,_,_,_,_,_,_,_,_,_,_]) H wn M M (H.hp.dB 3 M M) M fun a H=>s_call aaE H wn M (adh _ _ H.ro D l hv hz) M ?_;rintro v9 G9 a w ⟨ba,bl,bp,rfl,hit⟩ ze H;refine K2 _ _<|xK ?_;skip;refine PS (ι:=Unit) (κ:=aj) (Lc:=[(_,_),(_,_)]) (fun(k:Nat)(gh:Unit)=>[(b4,.cells #[.slice none 0 0] 22 (0,0)),(b5,.cells #[.bool false] 4 (0,0))]) (fun(k:Nat)(gh:Unit)=>[]) (fun(k:Nat)(gh:Unit)(g:GH)=>((gJ l).take k).find? (fun f=>decide<|f.id=id)=none) (fun(gx:aj)=>Code.ret) (fun(gx:aj)=>[(b4,.cells #[gx] 22 (0,0)),(b5,.cells #[.bool true] 4 (0,0))]) (fun(gx:aj)=>[]) (fun(gx:aj)(g:GH)=>∃f,iZ l id=some f∧av g (.sl 11<|f.map ah.dat) gx) (()) (by exact H.dR (Pl:=[_,_,_,_]) (dH:=[_,_,_,_]) [2,3,1,0] Z M) M Ux (hit) (fun _ _ h=>h) M (fun k args g h=>by obtain⟨_,_,_,_,rfl,_⟩:=MX h;rfl) (fun _ _ _ _ _ h=>h) (fun x G G' hm h=>let⟨f,h1,h2⟩:=h;⟨f,h1,h2.mono hm⟩) (rfl) ?_ ?_ ?_
 ·clear H;intro l2 Dj zQ bk k args gh G2 w2 F2 B2 a hk2 hm2 hI Qz QY acj H;obtain⟨hk,vA,vn,vc,rfl,hrep⟩:=MX hk2;dsimp only[yJ,List.cons_append,List.nil_append]at H;refine kP H (SR fun _ K2=>ak K2 M (SC fun a H=>dK Xh H wn M fun b7 a w Bt H=>bH Xh 0 (vs:=[_,_,_,_]) H wn M fun w H=>aI (Qz _ _ _ _ _ _ (by exact H.dR (Pl:=[_,_,_,_,_,_]) (dH:=[_,_,_,_,_,_]) [1,0,2,3,4,5] Z M) fun w H=>kP H<|SB<|SR fun _ K2=>Rm M<|Ro aF 2 M<|Rc M<|Kz K2<|Cd M ?_ ?_)))<;>clear H K2
  ·refine fun dW=>SR fun _ K2=>aV akH eG 1 M M fun a H=>s_call Uv H wn M (awg _ _ H.ro _ _ hrep (by have:=Qq<|ig hk;omega)) rfl ?_;rintro v17 DT a w Ij xX H;obtain⟨A17,n17,c17,rfl⟩:=Ij.form;refine bH eG 4 (vs:=[_]) H wn M fun w H=>bH wm 5 (vs:=[_]) H wn M fun w H=>K2 _ _ (eH ((acj (.slice A17 n17 c17) _ _ _ _ _ (by exact H.dR (Pl:=[_,_,_,_,_,_]) (dH:=[_,_,_,_,_]) [0,2,3,4,5] Z M) ?_).1 M));exact⟨_,by unfold iZ;rw[aAd hk hI dW];rfl,Ij⟩
  intro dW a H;exact fU (QY (()) _ _ _ _ _ (by exact H.dR (Pl:=[_,_,_,_,_,_]) (dH:=[_,_,_,_,_]) [0,2,3,4,5] Z M)<|alh hk hI dW)
 ·clear H;intro XM gh XV a w hm2 hI H;dsimp only[lca,bq]at H;refine K1 _ _<|dw<|fun _ K1=>bH eG 3 (vs:=[_]) H wn M fun w H=>bH wm 4 (vs:=[_]) H wn M fun w H=>K1 _ _<|eH ((Iu H 0 M ?_).1);intro a w H;dsimp only[List.eraseIdx_cons_succ,List.eraseIdx_cons_zero]at H;refine(gV H results61 (.cons (AA eG H M<|H.hp.sD 2 M M) (.cons (AA wm H M<|H.hp.sD 3 M M) .nil)) ?_).1;exact H.rt ⟨_,by unfold iZ;rw[alg (by simpa using hI)];rfl,by unfold iZ;rw[alg (by simpa using hI)];exact av.nT M Z⟩
 clear H;intro XM x XV a w hm2 hI H;dsimp only[lca,bq]at H;obtain⟨f,hf,hrep⟩:=hI;obtain⟨xA,xn,xc,rfl⟩:=hrep.form;refine eH ((Iu H 0 M ?_).1);intro a w H;dsimp only[List.eraseIdx_cons_succ,List.eraseIdx_cons_zero]at H;refine(gV H results61 (.cons (AA eG H M<|H.hp.sD 2 M M) (.cons (AA wm H M<|H.hp.sD 3 M M) .nil)) ?_).1;exact H.rt ⟨_,by rw[hf];rfl,by rw[hf];exact hrep⟩
theorem VR{α:Type}{p:α->Bool}{A:List α}{k:Nat}(hk:k<A.length)(h:(A.take k).findIdx? p=none)(hp:p A[k]=false):(A.take<|k+1).findIdx? p=none:=by
 rw[List.findIdx?_eq_none_iff]at h|-;rw[ji hk];intro x hx
 rcases iF.1 hx with hx|hx
 ·exact h x hx
 rw[oH.1 hx];exact hp
theorem VT{α:Type}{p:α->Bool}{A:List α}{k:Nat}(hk:k<A.length)(h:(A.take k).findIdx? p=none)(hp:p A[k]=true):A.findIdx? p=some k:=by
 have e:A.findIdx? p=(A.take k++A.drop k).findIdx? p:=by rw[List.take_append_drop]
 rw[e,List.findIdx?_append,h,mg hk,List.findIdx?_cons,hp]
 simp;omega
theorem Ot:LY prog 149:=⟨V⟩
theorem u8B:U8 prog 5:=⟨V⟩
theorem aEC:liesAt prog prog.depth 149 (2/prog.cellsOf 149) 0 149 1=true:=by kernel_rfl
theorem aiR:prog.cellsOf 5=1:=by kernel_rfl
theorem apd(v:aj)(w:World):(callFunc 207 #[v]).run prog w=.ok (.value v) w:=aGM func207 V V V V v w
theorem EO:prog.underlying 146=some (.pointer 149):=by kernel_rfl
theorem Xo:prog.underlying 297=some .unsafePointer:=by kernel_rfl
theorem Hw:dG prog 149 0 0:=⟨V⟩
theorem IU:Ty prog 146 1 8 [.pointer none] false:=⟨V,V⟩
theorem ajP:aW 152:=aX func152 M
theorem zy:prog.underlying 147=some (.slice 5):=by kernel_rfl
theorem Bj:dG prog 149 1 1:=⟨V⟩
theorem BQ:Ty prog 147 1 24 [.slice none 0 0] false:=⟨V,V⟩
theorem aem:prog.underlying 241=some (.pointer 5):=by kernel_rfl
abbrev bB(b:Nat)(p v:aj):Nat×Obj:=(b,.cells #[p,v] 149 (0,0))
theorem Tt {p:Prop} (h:p:=by
 exact H.hp.gX ⟨M,M⟩):p:=h
theorem aij {p:Prop} (h:p:=by
 clear H;intro a H;refine kH H (Rk M (Rf Hw M ?_));clear H;intro a H;refine bH IU 0 (vs:=[_]) H wn M ?_;clear H;intro w H;refine aI ?_;refine (leave0 H results152 ?_).2;exact Tt):p:=h
theorem awq(G:GH)(L:OL)(w0:World)(b:Nat)(A:Option Addr)(n c:Nat)(hO:fZ G (bB b (.pointer none) (.slice A n c)::L) w0) :
  Calls prog 152 #[aK b 0] w0 (fG w0 G (bB b (.pointer none) (.slice A n c)::L) fun u G' L'=>L'=bB b (aK b 0) (.slice A n c)::L∧G'=G):=by
 refine iY (N:=20) (T:=[(0,_)]) func152 M ntmps152 M M hO<|SR fun _ K1=>Rm M<|Rk M<|aV Hw IU 0 M M fun a H=>WT EO H wn M M fun a H=>K1 _ _<|jU H M ?_ ?_
 ·intro h6;exact kP H<|SC<|Rm M<|Rm M fun a H=>aqx EO Xo Ot H wn M 0 M M M fun a H=>aqt (xs:=[.tmp 9]) (apd _) H wn M M fun a H=>aqn Xo EO Ot H wn M 0 M aEC M aij
 intro h6;exact absurd h6 Z
theorem awr(G:GH)(L:OL)(w0:World)(b:Nat)(A:Option Addr)(n c:Nat)(hO:fZ G (bB b (aK b 0) (.slice A n c)::L) w0) :
  Calls prog 152 #[aK b 0] w0 (fG w0 G (bB b (aK b 0) (.slice A n c)::L) fun u G' L'=>L'=bB b (aK b 0) (.slice A n c)::L∧G'=G):=by
 refine iY (N:=20) (T:=[(0,_)]) func152 M ntmps152 M M hO<|SR fun _ K1=>Rm M<|Rk M<|aV Hw IU 0 M M fun a H=>WT EO H wn M M fun a H=>K1 _ _<|jU H M ?_ ?_
 ·intro h6;exact absurd h6 (by simp)
 intro h6;refine kP H<|SR fun _ K1=>Rm M<|Rk M<|aV Hw IU 0 M M<|Rm M fun a H=>aqs EO Ot H wn M M M fun a H=>K1 _ _<|jU H M ?_ ?_
 ·intro h19;exact absurd h19 Z
 intro h19;refine fU ((leave0 H results152 ?_).2);exact Tt
theorem awt(G:GH)(L:OL)(w0:World)(b:Nat)(p:aj)(A:Option Addr)(n c:Nat)(hp:p=.pointer none∨p=(aK b 0))(hO:fZ G (bB b p (.slice A n c)::L) w0) :
  Calls prog 152 #[aK b 0] w0 (fG w0 G (bB b p (.slice A n c)::L) fun u G' L'=>L'=bB b (aK b 0) (.slice A n c)::L∧G'=G):=by
 rcases hp with rfl|rfl
 ·exact awq G L w0 b A n c hO
 exact awr G L w0 b A n c hO
theorem asq(G:GH)(Lo:OL)(w0:World)(b:Nat)(p v:aj)(n:Nat)(xs:List aj)(s:ByteArray)(hp:p=.pointer none∨p=(aK b 0))(hO:fZ G (bB b p v::Lo) w0)(hrow:bT 5 1 v n xs Lo)(hn:n+s.size<=140737488355328) :
  Calls prog 75 #[aK b 0,.string s] w0 (fG w0 G (bB b p v::Lo) fun u G' L'=>∃v' gP,L'=bB b (aK b 0) v'::gP∧bT 5 1 v' (n+s.size) (xs++Lib.strCells s) gP∧G'=G):=by
 obtain⟨A,c,rfl,-,-⟩:=hrow.shape;refine iY (N:=19) (T:=[(0,_),(1,_)]) func75 M ntmps75 M M hO<|SR fun _ K1=>Ra M<|ak K1 M<|SR fun _ K2=>Rm M fun a H=>gM ajP (Li:=[]) (L:=bB b p _::Lo) H wn M (awt _ _ _ b p A n c hp<|Hp.owns (Li:=[]) H.hp) M ?_;rintro v7 _ L7 a w ⟨rfl,rfl⟩ Ej H;dsimp only[List.nil_append]at H;refine K2 _ _<|kP H<|SR fun _ K1=>Rm M<|Rm M<|Rk M<|aV Bj BQ 0 M M<|Rm M fun a H=>aGU (Li:=[_]) (Lo:=Lo) zy gZ u8B H wn M M hrow hn M ?_;intro v14 aeC a w Ip H;obtain⟨XF,c14,rfl,-,-⟩:=Ip.shape;refine kH H<|Rk M<|Rf Bj M fun a H=>bH BQ 0 (vs:=[_]) H wn M fun w H=>K1 _ _<|kP H<|SR fun _ K1=>Rm M<|Rv gZ M<|Ra M<|ak K1 M fun a H=>eH ((gV H results75 (.cons (cK H M) (.cons (cK H M) .nil)) ?_).1);exact H.hp.gX ⟨_,_,M,Ip,M⟩
theorem ahz {p:Prop} (h:p:=by
 refine iE 3 6 M M fun _ a w G1 hG HT H fin=>?_;refine aHc H wn M O M ?_;exact jD):p:=h
theorem arb(G:GH)(Lo:OL)(w0:World)(b:Nat)(p v:aj)(l:List UInt8)(hO:fZ G (bB b p v::Lo) w0)(hrow:bT 5 1 v l.length (Lib.byteCells l) Lo)(h0:l≠[]) :
  Calls prog 76 #[aK b 0] w0 (fG w0 G (bB b p v::Lo) fun u G' L'=>u=.string ⟨l.toArray⟩):=by
 rcases hrow.2 with⟨-,h,-⟩|⟨b2,cap,cur,rfl,rfl,hc1,hc2,hc3,hc4⟩
 ·exact absurd (List.eq_nil_of_length_eq_zero h) h0
 have hl0:l.length≠0:=fun h=>h0<|List.eq_nil_of_length_eq_zero h;have hml:maxLen=9223372036854775807:=rfl;refine iY (N:=14) (T:=[(0,_)]) func76 M ntmps76 M M hO ?_;intro a H;refine kP H<|SR fun _ K1=>ak K1 M<|SQ fun _ K2=>?_;clear H K1;intro a H;have H:=H.sub (T':=[(0,_)]) ⟨M,aC⟩;refine dI hmx [[],[0],[0,1],[0,1,2],ra 0 4,[],[5],[5,6],[5,6,7],ra 5 4,ra 0 10,ra 0 11] [10,11] V [_,_,_,.slice (some ⟨b2,0,none⟩) l.length cap,aK b2 0,_,_,_,.slice (some ⟨b2,0,none⟩) l.length cap,_] H (aD (Z0 M<|Rm M) (Z1 0 3 M<|Rk M) (Z1 1 4 M<|Rf Bj M) (Z1 2 5 M<|Ro BQ 0 M)<|aD ?_ (Z0 M<|Rm M) (Z1 5 8 M<|Rk M) (Z1 6 9 M<|Rf Bj M)<|aD (Z1 7 10 M<|Ro BQ 0 M) (Z1 8 11 M<|Rl zy M) (bX M) (bX M) dz) ?_
 ·exact ahz
 clear H;intro a w G jL H hv;have H:=H.aQ (hv 4 7 M M) M;have H:=H.aQ (hv 9 12 M M) M;clear hv;refine adS (i:=1) l aem aiR h0 O H wn M M M (by rw[<-hc4,Nat.mul_one]) M ?_;clear H;intro fz a w H;dsimp only[List.set]at H;refine kH H<|Ra M ?_;clear H;intro a H;refine aI ⟨M,?_⟩;refine K2 _ _ ?_;clear K2;refine lr H results76 M ?_;exact H.hp.gX M
theorem azP:dG prog 258 0 0:=⟨V⟩
theorem ayr:aW 224:=aX func224 M
theorem Xm:prog.underlying 271=some (.int .u64):=by kernel_rfl
theorem ayq:aW 223:=aX func223 M
theorem aiP(G:GH)(w0:World)(hG:Hold G w0)(x:kI)(t:Int):uN prog (.func (.func 223) #[] #[]) [.agg x.cells.toArray,vi t] w0 (bD w0 G fun u G'=>u=vi (Fq x.num t)):=by
 refine kJ (caps:=[]) ayq<|eN [(0,_),(1,_)] func223 M ntmps223 M M hG fun a H=>dw<|fun _ K1=>eD (cs:=[_,_,_,_,_,_]) H wn M M M fun b2 a w hb2 H=>kH H<|ak K1 M<|SR fun _ K2=>aV azP aF 0 M M<|Rm M fun a H=>s_call ayr H wn M (awk _ _ H.ro x.num t) M ?_;rintro v8 G8 a w rfl El H;exact kH H<|ak K2 M<|LR results223 M fun H=>H.rt M
theorem auT(G:GH)(w0:World)(hG:Hold G w0)(l:List kI)(t:Int)(v:aj)(hv:av G (.sl 6<|l.map kI.dat) v)(hl:l.length<=4294967296) :
  Calls prog 222 #[v,vi t,.func (.func 223) #[] #[]] w0 (bD w0 G fun u G'=>u=.tuple #[vi (qZ (l.map kI.num) t),.bool<|yX (l.map kI.num) t]):=by
 obtain⟨A,c,rfl,hc1,hc2,-⟩:=hv.slice;rw[bM]at *;obtain⟨p,hp⟩:∃p:Nat->Bool,p=fun h=>decide (¬(l.map kI.num).getD h 0<t):=⟨_,M⟩
 have hbs:qZ (l.map kI.num) t=nO p l.length 0 l.length:=by rw[hp,qZ,bM]
 refine eN [(0,_),(1,_),(2,_)] func222 M ntmps222 M M hG ?_;intro a H;refine kP H<|SR fun _ K1=>Ra M<|ak K1 M<|SR fun _ K2=>Rm M<|Rl Sk M<|ak K2 M<|SR fun _ K3=>Rm M<|Ra M<|ak K3 M<|SQ fun _ K4=>SB ?_;clear H K1 K2 K3;intro a H;skip;refine dY (ι:=Nat×Nat×Nat×GH) (Tc:=[(0,_),(1,_),(2,_),(8,_)]) (Lc:=[]) (fun gh=>[(9,vi gh.1),(10,vi gh.2.1)]) (fun gh=>[]) (fun gh=>gh.2.2.2) (fun gh=>gh.1<=gh.2.1∧gh.2.1<=l.length∧gh.2.1-gh.1<=gh.2.2.1∧nO p gh.2.2.1 gh.1 gh.2.1=qZ (l.map kI.num) t∧(∀b o,G b=some o->gh.2.2.2 b=some o)) (fun gh=>gh.2.1-gh.1) ((0,l.length,l.length,G)) (by exact H.sub ⟨M,M,M,M,M,M,aC⟩) ?_ ?_
 ·exact⟨fP _,eP _,Nat.sub_le _ _,hbs.symm,fun _ _ h=>h⟩
 clear H;rintro⟨i,j,f,g⟩ a w hI H;dsimp only at hI H;obtain⟨hij,hj,hf1,heq,hgm⟩:=hI;have Ky:=hv.mono hgm;dsimp only[lca,bq]at H;refine kP H (SQ fun _ K1=>SR fun _ K2=>Rm M<|Rm M<|Rc M<|Kz K2<|Cd M ?_ ?_)<;>clear H K2
 ·intro dL a H
  try have lD:=dT dL
  have hlt:i<j:=by omega
  rw[anz hf1 hlt]at heq;obtain⟨m,hm⟩:∃m,m=(i+j)/2:=⟨_,M⟩;rw[<-hm]at heq
  have hml:m<l.length:=by omega
  obtain⟨b,o,rfl,hrow⟩:=acL Ky hml
  have hpm:p m=decide (¬l[m].num<t):=by rw[hp];dsimp only;rw[getD_map hml]
  rw[hpm]at heq;refine kP H<|Kc K1<|SB<|SR fun _ K2=>Rm M<|Rm M<|Rd M ?_;clear H K1;intro a H;rw[show((i:Int)+(j:Int))=((i+j:Nat):Int) by push_cast;rfl]at H;refine IK ((i+j:Nat):Int) Xm oU H wn M (anA O O) M ?_;clear H;intro a H;refine adR _ H wn M M M Z M ?_;clear H;intro a H;rw[anx,<-hm]at H;refine IK (m:Int) oU Xm H wn M (KC O O) M ?_;clear H;intro a H;refine kH H<|ak K2 M<|SR fun _ K1=>Rm M<|Rm M<|Rm M<|Ri Sk wX M M ?_;clear H K2;intro a H;refine aY wX (cs:=[_,_,_,_,_,_]) H wn M M (fun j v hj=>H.hp.aJ<|hrow j v hj) M ?_;clear H;intro a H;refine kH H<|Rm M ?_;clear H;intro a H;refine ow H wn M M (aiP _ _ H.ro l[m] t) M ?_;clear H;rintro v30 GR a w rfl Bw H;refine kH H (Rc M<|Kz K1<|Cd M ?_ ?_)<;>clear H K1
  ·intro h31 a H
   try have p31:=dT h31
   rw[au (by simpa using aje.1 p31)]at heq;refine kP H<|SC<|Rm M<|Rd M<|Ra M ?_;clear H;intro a H;refine aI ?_;refine dO ((m+1,j,f-1,GR)) (by exact H.sub ⟨M,M,M,M,M,M,aC⟩) ?_
   (try dsimp only);exact⟨O,hj,O,heq,fun b o h=>Bw b o<|hgm b o h⟩
  intro h31 a H
  try have p31:=dF h31
  rw[ay (by simpa using fun h=>p31<|aje.2 h)]at heq;refine kP H<|SC<|Rm M<|Ra M ?_;clear H;intro a H;refine aI ?_;refine dO ((i,m,f-1,GR)) (by exact H.sub ⟨M,M,M,M,M,M,aC⟩) ?_
  (try dsimp only);exact⟨O,O,O,heq,fun b o h=>Bw b o<|hgm b o h⟩
 intro dL a H
 try have lD:=dF dL
 refine dS ?_;refine K4 _ _ ?_;clear K4;refine bU<|fun _ K2=>?_;rw[anw O]at heq;refine kP H (SC<|Rm M<|Rm M<|Rm M<|Rc M<|Rm M<|Sp 39 M ?_ ?_)<;>clear H
 ·intro nM a H
  try have p39:=dT nM
  have hil:i<l.length:=by omega
  obtain⟨b,o,rfl,hrow⟩:=acL Ky hil;refine kH H<|YM nM M<|YM nM M<|YM nM M<|YI Sk wX nM M M ?_;clear H;intro a H;refine aY wX (cs:=[_,_,_,_,_,_]) H (wg H M M nM) M M (fun j v hj=>H.hp.aJ<|hrow j v hj) M ?_;clear H;intro a H;refine kH H<|YM nM M ?_;clear H;intro a H;refine ow H (wg H M M nM) M M (aiP _ _ H.ro l[i] t) M ?_;clear H;rintro v46 G46 a w rfl aCD H;refine kH H<|YC nM M<|Pt nM M<|Ra M<|bZ K2 M ?_;clear H K2;intro a H;refine eH ?_;refine(gV H results222 (.cons (cK H M) (.cons (cK H M) .nil)) ?_).1;exact H.rt (by rw[amf heq.symm (by rw[bM];omega),<-heq];simp)
 intro nM a H
 try have p39:=dF nM
 refine kH H<|bJ nM M<|bJ nM M<|aU nM M<|Pf nM M<|Ra M<|bZ K2 M ?_;clear H K2;intro a H;refine eH ?_;refine(gV H results222 (.cons (cK H M) (.cons (cK H M) .nil)) ?_).1;exact H.rt (by rw[amg heq.symm (by rw[bM];omega),<-heq])
theorem DF:Ty prog 65 2 16 [.int .i64 0,.int .i64 0] true:=⟨V,V⟩
theorem Sb:sO prog 65 [(0,1),(1,1)] [.int .i64 0,.int .i64 0]:=⟨V,V⟩
theorem ajR:aW 158:=aX func158 M
def wB(fv:aj)(G:GH)(d:List Dat)(b:Bool):Prop:=∀(G1:GH)(w1:World)(cs:List aj),(∀b o,G b=some o->G1 b=some o)->Hold G1 w1->bg G1 d cs->
 uN prog fv [.agg cs.toArray] w1 (bD w1 G1 fun u G'=>u=.bool b)
def om(o:Option Nat):Int:=match o with|some i=>i|none=>-1
theorem Ba {p:Prop} (h:p:=by
 first
  |exact H.rt (by rw[VT hk2 hno h16];rfl)
  | exact H.rt (by rw [show l.take k=l from jX O] at hno;rw [hno];rfl)):p:=h
theorem afT {p:Prop} (h:p:=by
 exact ⟨O,VR hk2 hno h16,fun b o h=>xW b o (hgm b o h)⟩):p:=h
theorem Mt {p:Prop} (h:p:=by
 intro h16
 try have p16:=dF h16
 refine kP H (Kc K1 (SC (Rd M (Rm M ?_))));clear H K1;intro a H;refine aI ?_;refine dO ((k+1,xu)) (by exact H.sub ⟨M,M,M,M,aC⟩) ?_
 (try dsimp only);exact afT):p:=h
theorem anS(G:GH)(w0:World)(hG:Hold G w0)(l:List aN)(p:aN->Bool)(v fv:aj)(hv:av G (.sl 6<|l.map aN.dat) v)(hf:∀x∈l,wB fv G x.dat<|p x) :
  Calls prog 158 #[v,fv] w0 (bD w0 G fun u G'=>u=vi (om<|l.findIdx? p)):=by
 obtain⟨A,c,rfl,hc1,hc2,hg⟩:=hv.slice;have hml:maxLen=9223372036854775807:=rfl;rw[bM]at *;refine eN [(0,_),(1,_)] func158 M ntmps158 M M hG ?_;intro a H;refine kP H<|SR fun _ K1=>ak K1 M<|SQ fun _ K2=>SR fun _ K3=>Rm M<|Rl jI M<|Rm M<|Kz K3<|SB ?_;clear H K1 K3;intro a H;skip;refine dY (ι:=Nat×GH) (Tc:=[(0,_),(1,_),(7,_)]) (Lc:=[]) (fun gh=>[(8,vi gh.1)]) (fun gh=>[]) (fun gh=>gh.2) (fun gh=>gh.1<=l.length∧(l.take gh.1).findIdx? p=none∧(∀b o,G b=some o->gh.2 b=some o)) (fun gh=>l.length-gh.1) ((0,G)) (by exact H.sub ⟨M,M,M,M,aC⟩) ?_ ?_
 ·exact zO
 clear H;rintro⟨k,g⟩ a w hI H;dsimp only at hI H;obtain⟨hk,hno,hgm⟩:=hI;dsimp only[lca,bq]at H;refine kP H (SR fun _ K1=>Rc M<|Kz K1<|SQ fun _ K3=>Cd M ?_ ?_)<;>clear H K1
 ·intro h9 a H
  try have p9:=dT h9
  have hk2:k<l.length:=by omega
  obtain⟨b,o,cs,rfl,hcl,hrow,hrep⟩:=hg k l[k].dat (by simp[hk2]);obtain⟨pA,pn,pc,dA,dn,dc,yA,yn,yc,fA,fn,fc,rfl,-⟩:=hrep.row;replace hrow:=fun j u hj=>aH hgm<|hrow j u hj;refine kP H<|Kc K3<|SQ fun _ K1=>SB<|SR fun _ K4=>Rm M<|ak K4 M<|SR fun _ K5=>Rm M<|Rm M<|Rm M<|Ri jI iC M M ?_;clear H K3 K4;intro a H;refine aY iC (cs:=[_,_,_,_,_,_]) H wn M M (fun j v hj=>H.hp.aJ<|hrow j v hj) M ?_;clear H;intro a H;refine ow H wn M M (hf _ (ig hk2) _ _ _ hgm H.ro<|hrep.mono hgm) M ?_;clear H;rintro v16 xu a w rfl xW H;refine K5 _ _ ?_;clear K5;refine jU H M ?_ ?_
  ·intro h16
   try have p16:=dT h16
   refine kP H<|SR fun _ K3=>Rm M<|ak K3 M ?_;clear H K3;intro a H;refine lr H results158 M ?_
   exact Ba
  exact Mt
 intro h9 a H
 try have p9:=dF h9
 refine dS ?_;refine K2 _ _ ?_;clear K2;refine kP H<|SR fun _ K1=>ak K1 M ?_;clear H K1;intro a H;refine lr H results158 M ?_
 exact Ba
theorem ayo:aW 221:=aX func221 M
theorem ayp:aW 222:=aX func222 M
theorem qV:prog.underlying 46=some (.slice 3):=by kernel_rfl
theorem ayd:aW 205:=aX func205 M
theorem ajS:aW 166:=aX func166 M
theorem axC:aW 167:=aX func167 M
theorem azQ:dG prog 258 1 1:=⟨V⟩
theorem ajO:aW 148:=aX func148 M
theorem azR:dG prog 258 2 2:=⟨V⟩
theorem azS:dG prog 258 3 3:=⟨V⟩
def kz:kI:=⟨0,0,0,0,0,⟨#[]⟩⟩
def KF:List Int:=KG.map kI.num
def wI(k:Int):kI×Bool:=if yX KF k=true then(KG.getD (qZ KF k) kz,true)else(kz,false)
theorem find_spec(G:GH)(w0:World)(hG:Hold G w0)(k:Int):Calls prog 166 #[vi k] w0 (bD w0 G fun u G'=>u=.tuple #[.agg (wI k).1.cells.toArray,.bool (wI k).2]):=by
 refine eN [(0,_)] func166 M ntmps166 M M hG fun a H=>dw<|fun _ K1=>dK wX H wn M fun b2 a w hb2 H=>kH H<|ak K1 M<|SR fun _ K2=>fun a H=>s_call ayo H wn M (aEo _ _ H.ro) M ?_;rintro v7 G7 a w hv7 Ej H;obtain⟨A,c,rfl,hc1,hc2,-⟩:=hv7.slice;rw[bM]at *;refine kH H<|ak K2 M<|SR fun _ K1=>Rm M<|Rm M fun a H=>s_call ayp H wn M (auT _ _ H.ro KG k _ hv7 Z) M ?_;rintro v11 DN a w rfl QM H;have hv7:=hv7.mono QM;have hkn:KG.map kI.num=KF:=rfl;rw[hkn]at H;obtain⟨n,hn⟩:∃n,n=qZ KF k:=⟨_,M⟩;obtain⟨q,hq⟩:∃q,q=yX KF k:=⟨_,M⟩;rw[<-hn,<-hq]at H;refine kH H<|Rm M ?_;intro a H;(iterate 2 refine iH H wn M M M ?_;intro a H);refine kH H (Ra M<|ak K1 M<|SQ fun _ K2=>SR fun _ K3=>Rm M<|Rn M<|Kz K3<|Cd M ?_ ?_)<;>clear H K1 K3
 ·intro pF a H;refine dw<|fun _ K1=>jM aqV [_,_,_,_,_,_] H wn M M M M fun a H=>bH wX 0 (vs:=[_,_,_,_,_,_]) H wn M fun w H=>kH H<|ak K1 M fun a H=>eH ((gV H results166 (.cons (vk wX (cs:=[_,_,_,_,_,_]) H M M<|H.hp.dB 0 M M) (.cons (cK H M) .nil)) ?_).1);exact H.rt (by rw[wI,au (by rw[<-hq];simpa using pF)];rfl)
 intro pF a H
 have hlt:n<KG.length:=by have:=aBA (ks:=KF) (t:=k) (by rw[<-hq];simpa using pF);rw[<-hn]at this;simpa[KF]using this
 obtain⟨b,o,rfl,hrow⟩:=acL hv7 hlt;refine kP H<|Kc K2<|SR fun _ K1=>Rm M<|Rm M<|Ri Sk wX M M fun a H=>aY wX (cs:=[_,_,_,_,_,_]) H wn M M (fun j v hj=>H.hp.aJ<|hrow j v hj) M fun a H=>bH wX 0 (vs:=[_,_,_,_,_,_]) H wn M fun w H=>kH H<|ak K1 M fun a H=>eH ((gV H results166 (.cons (vk wX (cs:=[_,_,_,_,_,_]) H M M<|H.hp.dB 0 M M) (.cons (cK H M) .nil)) ?_).1);exact H.rt (by rw[wI,ay (by rw[<-hq];simpa using pF),<-hn,List.getD_eq_getElem?_getD,gF hlt];rfl)
def Cx(e:Int):List Int:=if e=1∨e=4∨e=5∨e=6 then[1]else if e=2 then[1,2]else if e=3 then[3]else if e=7 then[6]else if e=9 then[4]else if e=10 then[5]else[]
theorem FZ(G:GH)(A:List Int):bR G 1 (A.map fun k=>[li k]) (A.map vi):=by
 refine⟨A.map fun k=>[vi k],?_,by simp,fun j r cs hr hc=>?_⟩
 ·induction A with
  |nil=>rfl
  |cons a A ih=>simpa using ih
 rw[ql]at hr hc
 cases h:A[j]? with
 |none=>rw[h]at hr;cases hr
 |some x=>
  rw[h]at hr hc
  cases hr;cases hc
  exact⟨by simp only[bg];exact⟨_,_,M,by simp[av,Value.oneCell'],M⟩,M⟩
theorem YQ {p:Prop} (h:p:=by
 first
  |exact H.rt (by rw[Cx,bQ,bQ,bQ,bQ,bQ,bQ];exact av.nT M Z)
  | (obtain ⟨Gz,hmz,hbz,H⟩:=H.eX
     first
       |exact H.rt (by rw[Cx,iw];exact av.uK (n:=1) (cap:=1) hbz M (eP _) (show 1<=maxLen by decide) rfl (FZ _ [1]))
       |exact H.rt (by rw[Cx,bQ,iw];exact av.uK (n:=2) (cap:=2) hbz M (eP _) (show 2<=maxLen by decide) rfl (FZ _ [1,2]))
       |exact H.rt (by rw[Cx,bQ,bQ,iw];exact av.uK (n:=1) (cap:=1) hbz M (eP _) (show 1<=maxLen by decide) rfl (FZ _ [3]))
       |exact H.rt (by rw[Cx,bQ,bQ,bQ,iw];exact av.uK (n:=1) (cap:=1) hbz M (eP _) (show 1<=maxLen by decide) rfl (FZ _ [6]))
       |exact H.rt (by rw[Cx,bQ,bQ,bQ,bQ,iw];exact av.uK (n:=1) (cap:=1) hbz M (eP _) (show 1<=maxLen by decide) rfl (FZ _ [4]))
       | exact H.rt (by rw [Cx,bQ,bQ,bQ,bQ,bQ,iw];exact av.uK (n:=1) (cap:=1) hbz M (eP _) (show 1<=maxLen by decide) rfl (FZ _ [5])))):p:=h
theorem ahJ {p:Prop} (h:p:=by
 refine iT qV aF [_] [_] H wn M M M M M (by intro i q h;match i,h with|0,h=>exact h|n+1,h=>simp at h) M M ?_;clear H;intro b9 a w yY H;refine kH H (ak K1 M ?_);clear H K1;intro a H;refine lr H results167 M ?_
 exact YQ):p:=h
theorem Px {p:Prop} (h:p:=by
 refine kH H (ak K1 M ?_);clear H K1;intro a H;refine lr H results167 M ?_
 exact YQ):p:=h
theorem Zj {p:Prop} (h:p:=by
 intro h4 a H
 try have p4:=dT h4
 refine kP H (Kc K4 (Ct M h4 (SR fun _ K1=>?_)));clear H K4;intro a H;exact ahJ):p:=h
theorem aAM(G:GH)(w0:World)(hG:Hold G w0)(e:Int):Calls prog 167 #[vi e] w0 (bD w0 G fun u G'=>av G' (.sl 1 ((Cx e).map fun k=>[li k])) u):=by
  refine eN [(0,_)] func167 M ntmps167 M M hG ?_;intro a H;refine kP H (SR fun _ K1=>ak K1 M<|SQ fun _ K2=>SR fun _ K3=>Rm M<|Kz K3<|SB<|SQ fun _ K4=>SR fun _ K5=>Rc M<|ak K5 M<|Cd M ?_ ?_)<;>clear H K1 K3 K5
  · exact Zj
  intro h4 a H
  try have p4:=dF h4
  refine kP H (SR fun _ K1=>Rc M<|ak K1 M<|Cd M ?_ ?_)<;>clear H K1
  · exact Zj
  intro h4 a H
  try have p4:=dF h4
  refine kP H (SR fun _ K1=>Rc M<|ak K1 M<|Cd M ?_ ?_)<;>clear H K1
  · exact Zj
  intro h4 a H
  try have p4:=dF h4
  refine kP H (SC<|Rc M<|bZ K4 M<|Cd M ?_ ?_)<;>clear H K4
  · intro h4 a H
    try have p4:=dT h4
    refine dw<|fun _ K1=>?_;exact ahJ
  intro h4 a H
  try have p4:=dF h4
  refine kP H (SR fun _ K1=>Rc M<|ak K1 M<|Cd M ?_ ?_)<;>clear H K1
  · intro h10 a H
    try have lC:=dT h10
    refine dw<|fun _ K1=>?_;refine iT qV aF [_,_] [_,_] H wn M M M M M (by intro i q h;match i,h with|0,h=>exact h|1,h=>exact h|n+2,h=>simp at h) M M ?_;clear H;intro b12 a w CP H;exact Px
  intro h10 a H
  try have lC:=dF h10
  refine kP H (SR fun _ K1=>Rc M<|ak K1 M<|Cd M ?_ ?_)<;>clear H K1
  · intro iA a H
    try have tK:=dT iA
    refine dw<|fun _ K1=>?_;refine iT qV aF [_] [_] H wn M M M M M (by intro i q h;match i,h with|0,h=>exact h|n+1,h=>simp at h) M M ?_;clear H;intro b15 a w abq H;exact Px
  intro iA a H
  try have tK:=dF iA
  refine kP H (SR fun _ K1=>Rc M<|ak K1 M<|Cd M ?_ ?_)<;>clear H K1
  · intro h16 a H
    try have p16:=dT h16
    refine dw<|fun _ K1=>?_;refine iT qV aF [_] [_] H wn M M M M M (by intro i q h;match i,h with|0,h=>exact h|n+1,h=>simp at h) M M ?_;clear H;intro b18 a w Vg H;exact Px
  intro h16 a H
  try have p16:=dF h16
  refine kP H (SR fun _ K1=>Rc M<|ak K1 M<|Cd M ?_ ?_)<;>clear H K1
  · intro h19 a H
    try have vQ:=dT h19
    refine dw<|fun _ K1=>?_;refine iT qV aF [_] [_] H wn M M M M M (by intro i q h;match i,h with|0,h=>exact h|n+1,h=>simp at h) M M ?_;clear H;intro b21 a w aJP H;exact Px
  intro h19 a H
  try have vQ:=dF h19
  refine kP H (SR fun _ K1=>Rc M<|ak K1 M<|Cd M ?_ ?_)<;>clear H K1
  · intro h22 a H
    try have pV:=dT h22
    refine dw<|fun _ K1=>?_;refine iT qV aF [_] [_] H wn M M M M M (by intro i q h;match i,h with|0,h=>exact h|n+1,h=>simp at h) M M ?_;clear H;intro b24 a w aJR H;exact Px
  intro h22 a H
  try have pV:=dF h22
  refine kP H<|Kc K2<|SR fun _ K1=>ak K1 M ?_;clear H K2 K1;intro a H;refine lr H results167 M ?_
  exact YQ
theorem aD6{G:GH}{l:List Int}{A:Option Addr}{n c k:Nat}(hv:av G (.sl 1<|l.map fun k=>[li k]) (.slice A n c))(hk:k<l.length):∃b o,A=some ⟨b,o,none⟩∧aJ G b (o+k*1)=some (vi l[k]):=by
 obtain⟨A',c',he,_,_,hg⟩:=hv.slice
 injection he with e1 e2 e3
 subst e1;obtain⟨b,o,cs,h1,h2,h3,h4⟩:=hg k [li l[k]] (by simp[hk])
 simp only[bg,av]at h4
 obtain⟨v1,_,rfl,⟨rfl,-⟩,rfl⟩:=h4;exact⟨b,o,h1,h3 0 _ M⟩
theorem Mk {p:Prop} (h:p:=by
 exact ⟨fP _,M⟩):p:=h
theorem aD1(G:GH)(w0:World)(hG:Hold G w0)(l:List Int)(t:Int)(v:aj)(hv:av G (.sl 1<|l.map fun k=>[li k]) v) :
  Calls prog 205 #[v,vi t] w0 (bD w0 G fun u G'=>u=vi (om<|l.findIdx? fun x=>decide<|t=x)):=by
 obtain⟨A,c,rfl,hc1,hc2,-⟩:=hv.slice;have hml:maxLen=9223372036854775807:=rfl;rw[bM]at *;refine eN [(0,_),(1,_)] func205 M ntmps205 M M hG ?_;intro a H;refine kP H<|SR fun _ K1=>ak K1 M<|SQ fun _ K2=>SR fun _ K3=>Rm M<|Rl qV M<|Rm M<|Kz K3<|SB ?_;clear H K1 K3;intro a H;skip;refine dY (ι:=Nat) (Tc:=[(0,_),(1,_),(7,_)]) (Lc:=[]) (fun gh=>[(8,vi gh)]) (fun gh=>[]) (fun gh=>G) (fun gh=>gh<=l.length∧(l.take gh).findIdx? (fun x=>decide<|t=x)=none) (fun gh=>l.length-gh) (0) (by exact H.sub ⟨M,M,M,M,aC⟩) ?_ ?_
 ·exact Mk
 clear H;intro k a w hI H;obtain⟨hk,hno⟩:=hI;dsimp only[lca,bq]at H;refine kP H (SR fun _ K1=>Rc M<|Kz K1<|SQ fun _ K3=>Cd M ?_ ?_)<;>clear H K1
 ·intro h9 a H
  try have p9:=dT h9
  have hk2:k<l.length:=by omega
  obtain⟨b,o,rfl,hrow⟩:=aD6 hv hk2;refine kP H (Kc K3<|SQ fun _ K1=>SB<|SR fun _ K4=>Rm M<|ak K4 M<|SR fun _ K5=>Rm M<|Rm M<|Rm M<|Ri qV aF M M<|Rg aF M (by assumption) ?_);clear H K3 K4;intro a H;refine kH H (Rc M<|Kz K5<|Cd M ?_ ?_)<;>clear H K5
  ·intro h16 a H
   try have p16:=dT h16
   exact kP H (SR fun _ K3=>Rm M (ak K3 M (LR results205 M fun H=>H.rt (by rw[VT hk2 hno (by simpa using p16)];rfl))))
  intro h16 a H
  try have p16:=dF h16
  refine kP H<|Kc K1<|SC<|Rd M<|Rm M ?_;clear H K1;intro a H;refine aI ?_;refine dO ((k+1)) (by exact H.sub ⟨M,M,M,M,aC⟩) ?_
  exact⟨O,VR hk2 hno (by simpa using p16)⟩
 intro h9 a H
 try have p9:=dF h9
 refine dS ?_;refine K2 _ _ ?_;clear K2;exact kP H (SR fun _ K1=>ak K1 M<|LR results205 M fun H=>H.rt (by rw[show l.take k=l from jX O]at hno;rw[hno];rfl))
theorem ajl(G:GH)(w0:World)(hG:Hold G w0)(l:List Int)(t:Int)(v:aj)(hv:av G (.sl 1<|l.map fun k=>[li k]) v) :
  Calls prog 148 #[v,vi t] w0 (bD w0 G fun u G'=>u=.bool (decide<|t∈l)):=by
 obtain⟨A,c,rfl,hc1,hc2,-⟩:=hv.slice;rw[bM]at *;refine eN [(0,_),(1,_)] func148 M ntmps148 M M hG<|SR fun _ K1=>ak K1 M<|SR fun _ K2=>Rm M<|Rm M fun a H=>s_call ayd H wn M (aD1 _ _ H.ro l t _ hv) M ?_;rintro v7 G7 a w rfl Ej H;refine kH H<|Rc M<|ak K2 M fun a H=>lr H results148 M ?_
 exact H.rt (by
  congr 1
  cases h:l.findIdx? (fun x=>decide<|t=x)with
  |none=>
   rw[List.findIdx?_eq_none_iff]at h;have:t∉l:=fun hm=>absurd (h t hm) (by simp)
   simp[om,this]
  |some i=>
   obtain⟨hi,he,-⟩:=List.findIdx?_eq_some_iff_getElem.1 h
   have:t∈l:=by rw[mW he];exact ig _
   simp[om,this])
def H7(e k:Int):Bool:=(wI k).2&&decide ((wI k).1.M0∈Cx e)
theorem afU {p:Prop} (h:p:=by
 exact kH H (Rm M fun _ H=>fin H iJ M)):p:=h
theorem Bb {p:Prop} (h:p:=by
 exact H.rt M):p:=h
theorem afV {p:Prop} (h:p:=by
 exact fin H iJ (by show _=_;simp)):p:=h
theorem JA {p:Prop} (h:p:=by
 intro aZ a w G1 hG HT H fin;exact afU):p:=h
theorem alm(G:GH)(w0:World)(hG:Hold G w0)(e k:Int):Calls prog 93 #[vi e,vi k] w0 (bD w0 G fun u G'=>u=.bool (H7 e k)):=by
 refine eN [(0,_),(1,_)] func93 M ntmps93 M M hG<|SR fun _ K1=>ak K1 M<|SR fun _ K2=>Rm M fun a H=>s_call ajS H wn M (find_spec _ _ H.ro k) M ?_;rintro v9 G9 a w rfl ze H;dsimp only[kI.cells]at H;refine kH H<|Rm M ?_;intro a H;(iterate 2 refine iH H wn M M M ?_;intro a H);refine dK wX H wn M fun b5 a w hb5 H=>bH wX 0 (vs:=[_,_,_,_,_,_]) H wn M fun w H=>kH H<|ak K2 M<|SQ fun _ K1=>?_;clear H K2;intro a H
 by_cases c0:(wI k).2=true
 ·skip
  have uE:yG (fun(cu:Nat)(v:aj)(G:GH)=>match cu with|0=>v=.bool (wI k).2|1=>v=.bool (decide ((wI k).2=true))|2=>v=vi e|3=>(wI k).2=true->av G (.sl 1 ((Cx e).map fun k=>[li k])) v|4=>v=(aK b5 1)|5=>v=vi (wI k).1.M0|6=>v=.bool (decide ((wI k).1.M0∈Cx e))|7=>v=.bool (H7 e k)|_=>True):=by intro cu v G G' hm h;(iterate 9 (rcases cu with _|cu;(first|exact h|exact fun hf=>(h hf).mono hm)));exact trivial
  refine yM (hmx) [[],[0],[0,1],[0,1,2],[0,1],[0,1,4],ra 0 6,ra 0 7,ra 0 8] [8] V V _ uE H ?_ ?_
  ·clear H;refine aD ?_ ?_ ?_ ?_<|aD ?_ ?_ ?_ ?_<|bE (bX M) dz
   ·exact dN [] M trivial V uE M M JA
   ·exact dN [(0,12,_)] M ⟨fun _ _ h=>h,aC⟩ V uE M M fun aZ a w G1 hG HT H fin=>kH H (Rm M fun a H=>fin H iJ (by simp))
   ·exact dN [(1,13,_)] M ⟨fun _ _ h=>h,aC⟩ V uE M M fun aZ a w G1 hG HT H fin=>kH H<|YM (aG c0) M fun _ H=>fin H iJ M
   ·refine dN [(2,14,_),(1,13,_)] M ⟨fun _ _ h=>h,fun _ _ h=>h,aC⟩ V uE M M fun aZ a w G1 hG HT H fin=>s_call axC H (wg H M M<|aG c0) M (aAM _ _ H.ro e) M ?_;rintro v15 Jc a w Ii J3 H;exact fin H J3 (by first|exact fun _=>Ii|rfl)
   ·exact dN [(1,13,_)] M ⟨fun _ _ h=>h,aC⟩ V uE M M fun aZ a w G1 hG HT H fin=>kH H<|YF azQ (aG c0) M fun _ H=>fin H iJ M
   ·exact dN [(4,16,_),(1,13,_)] M ⟨fun _ _ h=>h,fun _ _ h=>h,aC⟩ V uE M M fun aZ a w G1 hG HT H fin=>kH H<|YO aF 0 (aG c0) M fun _ H=>fin H iJ M
   ·intro aZ a w G1 _ aM hc hG HT hv;have H:=HT;clear aM;obtain⟨u15,aDF,Ii⟩:=hv 3 15 (hc 3 Z) M;(try dsimp only at Ii);have H:=H.fT aDF;have H:=H.aQ (hv 5 17 (hc 5 Z) M) M;have H:=H.aQ (hv 1 13 (hc 1 Z) M) M;have Hb:=H.full;have H:=Hb;clear hc;refine s_call ajO H (wg H M M<|aG c0) M (ajl _ _ H.ro _ _ _<|Ii c0) M ?_;rintro v18 OU a w rfl aAP H;exact aI ⟨M,qw V uE M M HT Hb hG hv aAP (rfl) H⟩
   exact dN [(1,13,_),(6,18,_)] M ⟨fun _ _ h=>h,fun _ _ h=>h,aC⟩ V uE M M fun aZ a w G1 hG HT H fin=>kH H (Pt (aG c0) M fun a H=>fin H iJ (by unfold H7;simp_all))
  clear H;intro a w G FL H hv;have H:=H.aQ (hv 7 19 M M) M;clear hv;exact kH H<|Ra M fun a H=>aI ⟨M,K1 _ _<|lr H results93 M Bb⟩
 skip;refine dI hmx [[],[0],[0,1],[0,1,2],[0,1],[0,1,4],ra 0 6,ra 0 7,ra 0 8] [8] V [_,.bool (decide ((wI k).2=true)),undef,undef,undef,undef,undef,.bool<|H7 e k] H (aD (Z0 M<|Rm M) ?_ (aL 1 (aO c0) M M) ?_<|aD (aL 1 (aO c0) M M) (aL 1 (aO c0) M M) (aL 1 (aO c0) M M) ?_<|bE (bX M) dz) ?_
 ·exact iE 0 12 M M fun _ a w G1 hG HT H fin=>kH H<|Rm M fun a H=>afV
 ·intro aZ a w G1 _ aM hc hG HT hv;have H:=HT;clear aM;have H:=H.aQ (hv 2 14 (hc 2 Z) M) M;have H:=H.aQ (hv 1 13 (hc 1 Z) M) M;have Hb:=H.full;have H:=Hb;clear hc;exact kH H (Ks (aO c0) M fun a H=>aI ⟨M,qw V (fun _ _ _ _ _ h=>h) M M HT Hb hG hv (fun _ _ h=>h) (by first|exact fun _=>Ii|rfl) H⟩)
 ·exact fu 1 13 6 18 M M fun _ a w G1 hG HT H fin=>kH H (Pf (aO c0) M fun a H=>fin H iJ (by show _=_;unfold H7;simp_all))
 clear H;intro a w G FL H hv;have H:=H.aQ (hv 7 19 M M) M;clear hv;exact kH H<|Ra M fun a H=>aI ⟨M,K1 _ _<|lr H results93 M Bb⟩
def zS(k v:Int):Int:=if(wI k).2=false then 4 else if v<(wI k).1.low∨(wI k).1.high<v then 5 else 0
theorem afW {p:Prop} (h:p:=by
 exact kP H (SR fun _ K2=>ak K2 M (LR results94 M fun H=>H.rt (by unfold zS;simp_all)))):p:=h
theorem aiT(G:GH)(w0:World)(hG:Hold G w0)(k x:Int):Calls prog 94 #[vi k,vi x] w0 (bD w0 G fun u G'=>u=vi (zS k x)):=by
 refine eN [(0,_),(1,_)] func94 M ntmps94 M M hG<|SR fun _ K1=>ak K1 M<|SR fun _ K2=>Rm M fun a H=>s_call ajS H wn M (find_spec _ _ H.ro k) M ?_;rintro v9 G9 a w rfl ze H;dsimp only[kI.cells]at H;refine kH H<|Rm M ?_;intro a H;(iterate 2 refine iH H wn M M M ?_;intro a H);refine dK wX H wn M fun b5 a w hb5 H=>bH wX 0 (vs:=[_,_,_,_,_,_]) H wn M fun w H=>kH H (ak K2 M<|SQ fun _ K1=>SB<|SR fun _ K3=>Rm M<|Rn M<|ak K3 M<|Cd M ?_ ?_)<;>clear H K2 K3
 ·intro h12 a H
  try have nU:=dT h12
  exact afW
 refine fun h12=>SR fun _ K2=>Rm M<|aV azR aF 0 M M<|Rc M<|Rm M<|Sp 20 M ?_ ?_
 ·intro h20 a H
  try have BJ:=dT h20
  exact kH H (aU h20 M<|aU h20 M<|Pt h20 M<|ak K2 M<|Ct M M<|SR fun _ K3=>ak K3 M<|LR results94 M fun H=>H.rt (by unfold zS;simp_all))
 refine fun h20=>YM h20 M (YF azS h20 M<|YO aF 0 h20 M<|YC h20 M<|Pf h20 M<|ak K2 M<|Cd M ?_ ?_)<;>clear K2
 ·intro pF a H
  try have vP:=dT pF
  exact afW
 exact fun pF=>Kc K1 (SR fun _ K2=>ak K2 M<|LR results94 M fun H=>H.rt (by unfold zS;simp_all))
theorem zZ:dG prog 185 0 0:=⟨V⟩
theorem aks:aW 93:=aX func93 M
theorem akM:dG prog 185 1 1:=⟨V⟩
theorem akt:aW 94:=aX func94 M
def NR(q:Option Int)(k:Int):Bool:=match q with|some j=>decide (k<j)|none=>false
def Fh(e:Int):Option Int->List jy->Int
 |_,[]=>0
 |q,p::r=>if H7 e p.key=false then 4 else if q=some p.key then 7 else if NR q p.key=true then 6 else if zS p.key p.value=0 then Fh e (some p.key) r else zS p.key p.value
def Di(l:List jy)(k:Nat):Option Int:=if k=0 then none else l[k-1]?.map jy.key
def sU(e:Int)(l:List jy):Int:=if e<1∨10<e then 3 else Fh e none l
theorem avI{e:Int}{l:List jy}{k:Nat}(h:k<l.length):Fh e (Di l k) (l.drop k)=if H7 e l[k].key=false then 4 else if Di l k=some l[k].key then 7 else if NR (Di l k) l[k].key=true then 6 else if zS l[k].key l[k].value=0 then Fh e (Di l<|k+1) (l.drop<|k+1)else zS l[k].key l[k].value:=by
 rw[mg h,Fh]
 have:Di l (k+1)=some l[k].key:=by rw[Di,bQ,Nat.add_sub_cancel,gF h];rfl
 rw[this]
theorem WE{l:List jy}{k:Nat}(h:k=0):Di l k=none:=ay h
theorem afX {p:Prop} (h:p:=by
 first
  |exact H.rt (cO vi (by rw[au (by simpa using p61)]at heq;rw[sU,bQ];exact heq))
  |exact H.rt (cO vi (by rw[ay (by simpa using h21)]at heq;rw[sU,bQ];exact heq))
  |exact H.rt (cO vi (by rw[sU,bQ];exact heq))
  |exact H.rt (cO vi (by rw[sU,bQ,<-heq,show l.drop k=[]from mh O];rfl))
  | exact H.rt (cO vi (by rw [sU,iw]))):p:=h
theorem Fb {p:Prop} (h:p:=by
 exact ⟨fP _,M,fun _ _ h=>h⟩):p:=h
theorem YS {p:Prop} (h:p:=by
 exact fin H iJ (by show _=_;first|rfl|exact cO vi O)):p:=h
theorem auv {p:Prop} (h:p:=by
 exact ⟨O,h.symm⟩):p:=h
theorem auw {p:Prop} (h:p:=by
 exact ⟨O,mW h⟩):p:=h
theorem afY {p:Prop} (h:p:=by
 exact ⟨heq,fun b o h=>qI b o (uX b o (qJ b o h))⟩):p:=h
theorem Bc {p:Prop} (h:p:=by
 refine EH _ H (wg H M M (aG c0)) M M M O O M ?_;clear H;intro a H;exact YS):p:=h
theorem MB {p:Prop} (h:p:=by
 intro a H;refine lr H results90 M ?_
 exact afX):p:=h
theorem TM {p:Prop} (h:p:=by
 rw[(hpk h0).2]at h
 injection h with h
 exact auv):p:=h
theorem TR {p:Prop} (h:p:=by
 rw [(hpk h0).2] at h;exact auw):p:=h
theorem ahu {p:Prop} (h:p:=by
 refine fu 9 51 2 44 M M fun _ a w G1 hG HT H fin=>?_;refine vo aF H (wg H M M (aG c0)) M (H.hp.aJ (aH hG (aH uX (aH qJ (hpk O).1)))) M ?_;exact jD):p:=h
theorem apB(G:GH)(w0:World)(hG:Hold G w0)(e:Int)(l:List jy)(v:aj)(hv:av G (.sl 2<|l.map jy.dat) v) :
  Calls prog 90 #[vi e,v] w0 (bD w0 G fun u G'=>u=vi (sU e l)):=by
 obtain⟨A,c,rfl,hc1,hc2,-⟩:=hv.slice;have hml:maxLen=9223372036854775807:=rfl;rw[bM]at *;refine eN [(0,_),(1,_)] func90 M ntmps90 M M hG ?_;intro a H;refine kP H (SR fun _ K1=>ak K1 M<|SQ fun _ K2=>SR fun _ K3=>Rm M<|Rc M<|Rm M<|Sp 10 M ?_ ?_)<;>clear H K1
 ·intro h10 a H
  try have lC:=dT h10
  refine kH H<|aU h10 M<|Pt h10 M<|Kz K3<|Ct M M<|SR fun _ K1=>ak K1 M ?_;clear H K3 K1;exact MB
 intro h10 a H
 try have lC:=dF h10
 refine kH H (YM h10 M<|YC h10 M<|Pf h10 M<|Kz K3<|Cd M ?_ ?_)<;>clear H K3
 ·intro iA a H
  try have tK:=dT iA
  refine kP H<|SR fun _ K1=>ak K1 M ?_;clear H K1;exact MB
 intro iA a H
 try have tK:=dF iA
 refine kP H<|Kc K2<|SQ fun _ K1=>SR fun _ K3=>Rm M<|Rl tT M<|Rm M<|Kz K3<|SB ?_;clear H K2 K3;intro a H;skip;refine dY (ι:=Nat×GH) (Tc:=[(0,_),(1,_),(14,_),(15,_)]) (Lc:=[]) (fun gh=>[(16,vi gh.1)]) (fun gh=>[]) (fun gh=>gh.2) (fun gh=>gh.1<=l.length∧Fh e (Di l gh.1) (l.drop gh.1)=Fh e none l∧(∀b o,G b=some o->gh.2 b=some o)) (fun gh=>l.length-gh.1) ((0,G)) (by exact H.sub ⟨M,M,M,M,M,aC⟩) ?_ ?_
 ·exact Fb
 clear H;rintro⟨k,g⟩ a w hI H;dsimp only at hI H;obtain⟨hk,heq,hgm⟩:=hI;dsimp only[lca,bq]at H;refine kP H (SR fun _ K2=>Rc M<|Kz K2<|SQ fun _ K3=>Cd M ?_ ?_)<;>clear H K2
 ·intro dL a H
  try have lD:=dT dL
  have hk2:k<l.length:=by omega
  have Ky:=hv.mono hgm;obtain⟨b,o,rfl,hrow⟩:=WH Ky hk2
  obtain⟨pk,hpk⟩:∃pk,0<k->aJ g b (o+(k-1)*2+0)=some (vi pk)∧Di l k=some pk:=by
   by_cases h0:0<k
   ·obtain⟨b',o',he,hr'⟩:=WH Ky (show k-1<l.length by omega)
    injection he with he
    injection he with e1 e2 e3
    subst e1;subst e2;exact⟨_,fun _=>⟨hr' 0 _ M,by rw[Di,bQ,gF O];rfl⟩⟩
   exact⟨0,fun h=>absurd h h0⟩
  rw[avI hk2]at heq;have aJ9:=heq;refine kP H<|Kc K3<|SQ fun _ K2=>SB<|SR fun _ K4=>Rm M<|Ri tT qR M M ?_;clear H K3;intro a H;refine aY qR (cs:=[_,_]) H wn M M (fun j v hj=>H.hp.aJ<|hrow j v hj) M ?_;clear H;intro a H;refine dK qR H wn M ?_;clear H;intro b6 a w hb6 H;refine kH H<|Ra M ?_;clear H;intro a H;refine bH qR 0 (vs:=[_,_]) H wn M ?_;clear H;intro w H;refine K4 _ _ ?_;clear K4;refine rQ (ι:=GH) (Tc:=[(0,_),(1,_),(6,_),(14,_),(15,_),(16,_)]) (Lc:=[(_,_)]) (fun gh=>[]) (fun gh=>[]) (fun gh=>gh) (fun gh=>(if zS l[k].key l[k].value=0 then Fh e (Di l<|k+1) (l.drop<|k+1)else zS l[k].key l[k].value)=Fh e none l∧(∀b o,g b=some o->gh b=some o)) (by exact H.sub ⟨M,M,M,M,M,M,aC⟩) ?_ ?_
  ·skip;refine kP H<|SB<|SR fun _ K3=>Rm M<|aV zZ aF 0 M M ?_;clear H;intro a H;refine s_call aks H wn M (alm _ _ H.ro e l[k].key) M ?_;clear H;rintro v25 OV a w rfl qJ H;replace hrow:=fun j u hj=>aH qJ<|hrow j u hj;refine kH H (Rn M<|ak K3 M<|Cd M ?_ ?_)<;>clear H K3
   ·intro h21 a H
    try have sG:=dT h21
    refine kP H<|SR fun _ K3=>ak K3 M ?_;clear H K3;exact MB
   intro h21 a H
   try have sG:=dF h21
   rw[au (by simpa using h21)]at heq;refine bU<|fun _ K3=>?_
   by_cases c0:0<(k:Int)
   ·skip
    by_cases c1:l[k].key=pk
    ·skip;refine dI hmx [[],[0],[0,1],[0,1,2],ra 0 4,[0,1,2],[0,1,2],[0,1,2,6],[0,1,2,5,6,7],[0,1,2,5,6,7,8],[0,1,2,5,6,7,8,9],ra 0 11,ra 0 12,ra 0 13] [13] V [_,_,_,_,vi l[k].key,_,_,vi ((k-1:Nat):Int),_,_,_,_,_] H (aD (Z0 M<|Rm M) (Z1 0 28 M<|Rc M) (Z1 1 29 M<|Rm M) (Z1 2 30 M<|YF zZ (aG c0) M)<|aD (Z2 3 31 2 30 M<|YO aF 0 (aG c0) M) (Z1 2 30 M<|YM (aG c0) M) (Z1 2 30 M<|YM (aG c0) M) ?_<|aD (Z3 5 33 7 35 2 30 M<|YI tT qR (aG c0) M M) (Z2 8 36 2 30 M<|YF zZ (aG c0) M) (X2 9 37 2 30 M fun hG=>YR aF (aG c0) M<|aH hG<|aH qJ (hpk O).1) (Z3 4 32 10 38 2 30 M<|YC (aG c0) M)<|bE (Z2 2 30 11 39 M<|Pt (aG c0) M)<|bE (bX M) dz) ?_
     ·refine fu 6 34 2 30 M M fun _ a w G1 hG HT H fin=>?_;exact Bc
     clear H;intro a w G uX H hv;have H:=H.aQ (hv 12 40 M M) M;clear hv;refine kH H<|Ra M ?_;clear H;intro a H;refine aI ⟨M,?_⟩;refine K3 _ _ ?_;clear K3;refine zR H M (aG c1) ?_;refine bU<|fun _ K3=>?_;rw[ay (by rw[(hpk O).2,c1])]at heq;refine kP H<|SC<|bZ K3 M ?_;clear H K3;exact MB
    skip;refine dI hmx [[],[0],[0,1],[0,1,2],ra 0 4,[0,1,2],[0,1,2],[0,1,2,6],[0,1,2,5,6,7],[0,1,2,5,6,7,8],[0,1,2,5,6,7,8,9],ra 0 11,ra 0 12,ra 0 13] [13] V [_,_,_,_,vi l[k].key,_,_,vi ((k-1:Nat):Int),_,_,_,_,_] H (aD (Z0 M<|Rm M) (Z1 0 28 M<|Rc M) (Z1 1 29 M<|Rm M) (Z1 2 30 M<|YF zZ (aG c0) M)<|aD (Z2 3 31 2 30 M<|YO aF 0 (aG c0) M) (Z1 2 30 M<|YM (aG c0) M) (Z1 2 30 M<|YM (aG c0) M) ?_<|aD (Z3 5 33 7 35 2 30 M<|YI tT qR (aG c0) M M) (Z2 8 36 2 30 M<|YF zZ (aG c0) M) (X2 9 37 2 30 M fun hG=>YR aF (aG c0) M<|aH hG<|aH qJ (hpk O).1) (Z3 4 32 10 38 2 30 M<|YC (aG c0) M)<|bE (Z2 2 30 11 39 M<|Pt (aG c0) M)<|bE (bX M) dz) ?_
    ·refine fu 6 34 2 30 M M fun _ a w G1 hG HT H fin=>?_;exact Bc
    clear H;intro a w G uX H hv;have H:=H.aQ (hv 12 40 M M) M;clear hv;refine kH H<|Ra M ?_;clear H;intro a H;refine aI ⟨M,?_⟩;refine K3 _ _ ?_;clear K3;refine oJ H M (aO c1) ?_;refine bU<|fun _ K3=>?_
    have q1:¬(0<(k:Int)∧l[k].key=pk):=by first|exact fun h=>c1 h.2|exact fun h=>c0 h.1
    rw[au<|fun h=>q1 (by
     by_cases h0:0<k
     ·exact TM
     rw[WE O]at h
     cases h)]at heq
    by_cases c3:l[k].key<pk
    ·skip;refine dI hmx [[],[0],[0,1],[0,1,2],ra 0 4,[0,1,2],[0,1,2],[0,1,2,6],[0,1,2,5,6,7],[0,1,2,5,6,7,8],[0,1,2,5,6,7,8,9],ra 0 11,ra 0 12,ra 0 13] [13] V [_,_,_,_,vi l[k].key,_,_,vi ((k-1:Nat):Int),_,_,vi pk,_,_] H (aD (Z0 M<|Rm M) (Z1 0 42 M<|Rc M) (Z1 1 43 M<|Rm M) (Z1 2 44 M<|YF zZ (aG c0) M)<|aD (Z2 3 45 2 44 M<|YO aF 0 (aG c0) M) (Z1 2 44 M<|YM (aG c0) M) (Z1 2 44 M<|YM (aG c0) M) ?_<|aD (Z3 5 47 7 49 2 44 M<|YI tT qR (aG c0) M M) (Z2 8 50 2 44 M<|YF zZ (aG c0) M) ?_ (Z3 4 46 10 52 2 44 M<|YC (aG c0) M)<|bE (Z2 2 44 11 53 M<|Pt (aG c0) M)<|bE (bX M) dz) ?_
     ·refine fu 6 48 2 44 M M fun _ a w G1 hG HT H fin=>?_;exact Bc
     ·exact ahu
     clear H;intro a w G qI H hv;have H:=H.aQ (hv 12 54 M M) M;clear hv;refine kH H<|Ra M ?_;clear H;intro a H;refine aI ⟨M,?_⟩;refine K3 _ _ ?_;clear K3;refine zR H M (aG c3) ?_;refine bU<|fun _ K3=>?_;rw[ay (by rw[(hpk O).2];exact aG c3)]at heq;refine kP H<|SC<|bZ K3 M ?_;clear H K3;exact MB
    skip;refine dI hmx [[],[0],[0,1],[0,1,2],ra 0 4,[0,1,2],[0,1,2],[0,1,2,6],[0,1,2,5,6,7],[0,1,2,5,6,7,8],[0,1,2,5,6,7,8,9],ra 0 11,ra 0 12,ra 0 13] [13] V [_,_,_,_,vi l[k].key,_,_,vi ((k-1:Nat):Int),_,_,vi pk,_,_] H (aD (Z0 M<|Rm M) (Z1 0 42 M<|Rc M) (Z1 1 43 M<|Rm M) (Z1 2 44 M<|YF zZ (aG c0) M)<|aD (Z2 3 45 2 44 M<|YO aF 0 (aG c0) M) (Z1 2 44 M<|YM (aG c0) M) (Z1 2 44 M<|YM (aG c0) M) ?_<|aD (Z3 5 47 7 49 2 44 M<|YI tT qR (aG c0) M M) (Z2 8 50 2 44 M<|YF zZ (aG c0) M) ?_ (Z3 4 46 10 52 2 44 M<|YC (aG c0) M)<|bE (Z2 2 44 11 53 M<|Pt (aG c0) M)<|bE (bX M) dz) ?_
    ·refine fu 6 48 2 44 M M fun _ a w G1 hG HT H fin=>?_;exact Bc
    ·exact ahu
    clear H;intro a w G qI H hv;have H:=H.aQ (hv 12 54 M M) M;clear hv;refine kH H<|Ra M ?_;clear H;intro a H;refine aI ⟨M,?_⟩;refine K3 _ _ ?_;clear K3;refine oJ H M (aO c3) ?_;refine fU ?_;refine⟨_,by exact H.sub ⟨M,M,M,M,M,M,aC⟩,?_⟩
    have q2:¬(0<(k:Int)∧l[k].key<pk):=by first|exact fun h=>c3 h.2|exact fun h=>c0 h.1
    rw[au<|fun h=>q2 (by
     by_cases h0:0<k
     ·exact TR
     rw[WE O]at h
     cases h)]at heq
    exact afY
   skip;refine dI hmx [[],[0],[0,1],[0,1,2],ra 0 4,[0,1,2],[0,1,2],[0,1,2,6],[0,1,2,5,6,7],[0,1,2,5,6,7,8],[0,1,2,5,6,7,8,9],ra 0 11,ra 0 12,ra 0 13] [13] V [_,_,_,undef,undef,undef,undef,undef,undef,undef,undef,undef,_] H (aD (Z0 M<|Rm M) (Z1 0 28 M<|Rc M) (Z1 1 29 M<|Rm M) (aL 2 (aO c0) M M)<|aD (aL 2 (aO c0) M M) (aL 2 (aO c0) M M) (aL 2 (aO c0) M M) (aL 2 (aO c0) M M)<|aD (aL 2 (aO c0) M M) (aL 2 (aO c0) M M) (aL 2 (aO c0) M M) (aL 2 (aO c0) M M)<|bE (Z2 2 30 11 39 M<|Pf (aO c0) M)<|bE (bX M) dz) ?_
   clear H;intro a w G uX H hv;have H:=H.aQ (hv 12 40 M M) M;clear hv;refine kH H<|Ra M ?_;clear H;intro a H;refine aI ⟨M,?_⟩;refine K3 _ _ ?_;clear K3;refine oJ H M M ?_;refine bU<|fun _ K3=>?_
   have q1:¬(0<(k:Int)∧l[k].key=pk):=by first|exact fun h=>c1 h.2|exact fun h=>c0 h.1
   rw[au<|fun h=>q1 (by
    by_cases h0:0<k
    ·exact TM
    rw[WE O]at h
    cases h)]at heq
   refine dI hmx [[],[0],[0,1],[0,1,2],ra 0 4,[0,1,2],[0,1,2],[0,1,2,6],[0,1,2,5,6,7],[0,1,2,5,6,7,8],[0,1,2,5,6,7,8,9],ra 0 11,ra 0 12,ra 0 13] [13] V [_,_,_,undef,undef,undef,undef,undef,undef,undef,undef,undef,_] H (aD (Z0 M<|Rm M) (Z1 0 42 M<|Rc M) (Z1 1 43 M<|Rm M) (aL 2 (aO c0) M M)<|aD (aL 2 (aO c0) M M) (aL 2 (aO c0) M M) (aL 2 (aO c0) M M) (aL 2 (aO c0) M M)<|aD (aL 2 (aO c0) M M) (aL 2 (aO c0) M M) (aL 2 (aO c0) M M) (aL 2 (aO c0) M M)<|bE (Z2 2 44 11 53 M<|Pf (aO c0) M)<|bE (bX M) dz) ?_
   clear H;intro a w G qI H hv;have H:=H.aQ (hv 12 54 M M) M;clear hv;refine kH H<|Ra M ?_;clear H;intro a H;refine aI ⟨M,?_⟩;refine K3 _ _ ?_;clear K3;refine oJ H M M ?_;refine fU ?_;refine⟨_,by exact H.sub ⟨M,M,M,M,M,M,aC⟩,?_⟩
   have q2:¬(0<(k:Int)∧l[k].key<pk):=by first|exact fun h=>c3 h.2|exact fun h=>c0 h.1
   rw[au<|fun h=>q2 (by
    by_cases h0:0<k
    ·exact TR
    rw[WE O]at h
    cases h)]at heq
   exact afY
  clear H;intro g2 a w hI H;obtain⟨heq,nk⟩:=hI;replace hrow:=fun j u hj=>aH nk<|hrow j u hj;dsimp only[lca,bq]at H;refine kP H<|SR fun _ K3=>aV zZ aF 0 M M<|aV akM aF 0 M M ?_;clear H;intro a H;refine s_call akt H wn M (aiT _ _ H.ro l[k].key l[k].value) M ?_;clear H;rintro v59 G59 a w rfl aCG H;refine kH H (ak K3 M<|SR fun _ K4=>Rm M<|Rc M<|Kz K4<|Cd M ?_ ?_)<;>clear H K3 K4
  ·intro tu a H
   try have p61:=dT tu
   refine kP H<|SR fun _ K3=>Rm M<|ak K3 M ?_;clear H K3;exact MB
  intro tu a H
  try have p61:=dF tu
  refine kP H<|Kc K2<|SC<|Rd M<|Rm M ?_;clear H K2;intro a H;refine aI ?_;refine dO ((k+1,G59)) (by exact(H.dR (Pl:=[_]) (dH:=[]) [] Z M).sub ⟨M,M,M,M,M,aC⟩) ?_
  (try dsimp only);exact⟨O,by rw[ay (by simpa using p61)]at heq;exact heq,fun b o h=>aCG b o<|nk b o<|hgm b o h⟩
 intro dL a H
 try have lD:=dF dL
 refine dS ?_;refine K1 _ _ ?_;clear K1;refine kP H<|SR fun _ K1=>ak K1 M ?_;clear H K1;intro a H;refine lr H results90 M ?_
 exact afX
theorem jS:Ty prog 41 1 8 [.int .i64 0] false:=⟨V,V⟩
theorem tQ:prog.underlying 211=some (.slice 41):=by kernel_rfl
theorem zX:aW 122:=aX func122 M
theorem Aq(G:GH)(w0:World)(hG:Hold G w0)(n l h:Int):Calls prog 122 #[vi n,vi l,vi h] w0 (bD w0 G fun u G'=>u=.bool (decide<|l<=n∧n<=h)∧G=G'):=by
 refine eN [(0,_),(1,_),(2,_)] func122 M ntmps122 M M hG ?_;intro a H;refine kP H (SR fun _ K1=>ak K1 M<|SR fun _ K2=>Rm M<|Rm M<|Rc M<|Rm M<|Sp 10 M ?_ ?_)<;>clear H K1
 ·intro h10 a H
  try have lC:=dT h10
  exact kH H (YM h10 M (YM h10 M (YC h10 M (Pt h10 M (ak K2 M (LR results122 M fun H=>H.rt ⟨iN (by first|(simp_all;done)|(simp_all;omega)),rfl⟩))))))
 intro h10 a H
 try have lC:=dF h10
 exact kH H (bJ h10 M (Pf h10 M (ak K2 M (LR results122 M fun H=>H.rt ⟨iN (by first|(simp_all;done)|(simp_all;omega)),rfl⟩))))
def dX(b:Bool)(e:Int):Int:=if b=true then e else 0
theorem qF(G:GH)(w0:World)(hG:Hold G w0)(b:Bool)(e:Int):Calls prog 50 #[.bool b,vi e] w0 (bD w0 G fun u G'=>u=vi (dX b e)∧G=G'):=by
 refine eN [(0,_),(1,_)] func50 M ntmps50 M M hG ?_;intro a H;refine kP H (SR fun _ K1=>ak K1 M<|SQ fun _ K2=>SR fun _ K3=>Rm M<|Kz K3<|Cd M ?_ ?_)<;>clear H K1 K3
 ·intro h5 a H
  try have p5:=dT h5
  exact kP H (SR fun _ K1=>Rm M<|ak K1 M<|LR results50 M fun H=>H.rt ⟨cO vi (by simp_all[dX]),M⟩)
 intro h5 a H
 try have p5:=dF h5
 exact kP H (Kc K2<|SR fun _ K1=>ak K1 M<|LR results50 M fun H=>H.rt ⟨cO vi (by simp_all[dX]),M⟩)
def fD:List Int->Int
 |[]=>0
 |e::r=>if e≠0 then e else fD r
theorem UR{l:List Int}{k:Nat}(h:k<l.length):fD (l.drop k)=if l[k]≠0 then l[k]else fD (l.drop<|k+1):=by
 rw[mg h,fD]
theorem uV(G:GH)(w0:World)(hG:Hold G w0)(l:List Int)(v:aj)(hv:av G (.sl 1<|l.map fun k=>[li k]) v) :
  Calls prog 45 #[v] w0 (bD w0 G fun u G'=>u=vi (fD l)∧G=G'):=by
 obtain⟨A,c,rfl,hc1,hc2,hg⟩:=hv.slice;have hml:maxLen=9223372036854775807:=rfl;rw[bM]at *;refine eN [(0,_)] func45 M ntmps45 M M hG ?_;intro a H;refine kP H<|SR fun _ K1=>ak K1 M<|SQ fun _ K2=>SR fun _ K3=>Rm M<|Rl tQ M<|Rm M<|Kz K3<|SB ?_;clear H K1 K3;intro a H;skip;refine dY (ι:=Nat) (Tc:=[(5,_),(6,_)]) (Lc:=[]) (fun gh=>[(7,vi gh)]) (fun gh=>[]) (fun gh=>G) (fun gh=>gh<=l.length∧fD (l.drop gh)=fD l) (fun gh=>l.length-gh) (0) (by exact H.sub ⟨M,M,M,aC⟩) ?_ ?_
 ·exact Mk
 clear H;intro k a w hI H;obtain⟨hk,he⟩:=hI;dsimp only[lca,bq]at H;refine kP H (SR fun _ K1=>Rc M<|Kz K1<|SQ fun _ K3=>Cd M ?_ ?_)<;>clear H K1
 ·intro h8 a H
  try have p8:=dT h8
  have hk2:k<l.length:=by omega
  obtain⟨b,o,cs,rfl,hcl,hrow,hr⟩:=hg k [li l[k]] (by simp[hk2]);obtain⟨v1,_,rfl,⟨rfl,-⟩,rfl⟩:∃v vs,cs=v::vs∧av G (li l[k]) v∧bg G [] vs:=hr
  have hcell:aJ G b (o+k*1)=some (vi l[k]):=by simpa using hrow 0 _ M
  refine kP H (Kc K3<|SQ fun _ K1=>SB<|SR fun _ K4=>Ri tQ jS M M<|Rg jS M hcell<|ak K4 M<|SR fun _ K5=>Rm M<|Rc M<|Kz K5<|Cd M ?_ ?_)<;>clear H K3 K4 K5
  ·intro h12 a H
   try have nU:=dT h12
   exact kP H (SR fun _ K3=>Rm M<|ak K3 M<|LR results45 M fun H=>H.rt ⟨cO vi (by rw[UR hk2,ay nU]at he;exact he),M⟩)
  intro h12 a H
  try have nU:=dF h12
  refine kP H<|Kc K1<|SC<|Rd M<|Rm M ?_;clear H K1;intro a H;refine aI ?_;refine dO ((k+1)) (by exact H.sub ⟨M,M,M,aC⟩) ?_
  exact⟨O,by rw[UR hk2,au nU]at he;exact he⟩
 intro h8 a H
 try have p8:=dF h8
 refine dS ?_;refine K2 _ _ ?_;clear K2;exact kP H (SR fun _ K1=>ak K1 M<|LR results45 M fun H=>H.rt ⟨cO vi (by rw[mh O]at he;exact he),M⟩)
def wz(fv:aj)(Gi:GH)(n:Nat)(E:Nat->Int):Prop:=∀i,i<n->∀(G1:GH)(w1:World),(∀b o,Gi b=some o->G1 b=some o)->Hold G1 w1->uN prog fv [vi i] w1 (bD w1 G1 fun u G'=>u=vi (E i))
theorem wz.mono{fv:aj}{G G':GH}{n:Nat}{E:Nat->Int}(h:wz fv G n E)(hm:∀b o,G b=some o->G' b=some o):wz fv G' n E:=fun i hi G1 w1 hG1=>h i hi G1 w1 fun b o hb=>hG1 b o<|hm b o hb
def kW(E:Nat->Int)(n:Nat):Int:=fD ((List.range n).map E)
theorem Pb{E:Nat->Int}{n k:Nat}(h:k<n):fD (((List.range n).map E).drop k)=if E k≠0 then E k else fD (((List.range n).map E).drop<|k+1):=by
 rw[UR (by simpa using h)];simp
theorem auy {p:Prop} (h:p:=by
 exact ⟨O,by rw [Pb hk2,au vP] at he;exact he,fun b o h=>Vt b o (hgm b o h)⟩):p:=h
theorem aiw {p:Prop} (h:p:=by
 refine kP H (Kc K1 (SC (Rd M (Rm M ?_))));clear H K1;intro a H;refine aI ?_;refine dO ((k+1,LJ)) (by exact H.sub ⟨M,M,M,aC⟩) ?_
 (try dsimp only);exact auy):p:=h
theorem Pg(G:GH)(w0:World)(hG:Hold G w0)(n:Nat)(E:Nat->Int)(fv:aj)(hn:n<=4611686018427387904)(hf:wz fv G n E) :
  Calls prog 117 #[vi n,fv] w0 (bD w0 G fun u G'=>u=vi (kW E n)):=by
 refine eN [(0,_),(1,_)] func117 M ntmps117 M M hG ?_;intro a H;refine kP H<|SR fun _ K1=>ak K1 M<|SQ fun _ K2=>SR fun _ K3=>Rm M<|Rm M<|Kz K3<|SB ?_;clear H K1 K3;intro a H;skip;refine dY (ι:=Nat×GH) (Tc:=[(1,_),(7,_)]) (Lc:=[]) (fun gh=>[(8,vi gh.1)]) (fun gh=>[]) (fun gh=>gh.2) (fun gh=>gh.1<=n∧fD (((List.range n).map E).drop gh.1)=kW E n∧(∀b o,G b=some o->gh.2 b=some o)) (fun gh=>n-gh.1) ((0,G)) (by exact H.sub ⟨M,M,M,aC⟩) ?_ ?_
 ·exact Fb
 clear H;rintro⟨k,g⟩ a w hI H;dsimp only at hI H;obtain⟨hk,he,hgm⟩:=hI;dsimp only[lca,bq]at H;refine kP H (SR fun _ K1=>Rc M<|Kz K1<|SQ fun _ K3=>Cd M ?_ ?_)<;>clear H K1
 ·intro h9 a H
  try have p9:=dT h9
  have hk2:k<n:=by omega
  refine kP H<|Kc K3<|SQ fun _ K1=>SB<|SR fun _ K4=>Rm M<|ak K4 M<|SR fun _ K5=>Rm M<|Rm M ?_;clear H K3 K4;intro a H;refine ow H wn M M (hf k hk2 _ _ hgm H.ro) M ?_;clear H;rintro v13 LJ a w rfl Vt H;refine kH H (ak K5 M<|SR fun _ K3=>Rm M<|Rc M<|Kz K3<|Cd M ?_ ?_)<;>clear H K5 K3
  ·intro pF a H
   try have vP:=dT pF
   exact kP H (SR fun _ K3=>Rm M<|ak K3 M<|LR results117 M fun H=>H.rt<|cO vi (by rw[Pb hk2,ay vP]at he;exact he))
  intro pF a H
  try have vP:=dF pF
  exact aiw
 intro h9 a H
 try have p9:=dF h9
 refine dS ?_;refine K2 _ _ ?_;clear K2;exact kP H (SR fun _ K1=>ak K1 M (LR results117 M fun H=>H.rt (cO vi (by rw[mh (by simp;omega)]at he;exact he))))
def yh(id:Nat->Int)(i:Nat):Int:=if¬(1<=id i∧id i<=1073741824)then 18 else if 0<i∧id i=id (i-1)then 7 else if 0<i∧id i<id (i-1)then 6 else 0
theorem Tw {p:Prop} (h:p:=by
 exact H.rt (cO vi (by unfold yh;(repeat' split) <;> first|rfl|(exfalso;simp_all;done)|(exfalso;simp_all;omega)))):p:=h
theorem Uc {p:Prop} (h:p:=by
 refine kP H (SR fun _ K1=>ak K1 M ?_);clear H K1;intro a H;refine lr H results119 M ?_
 exact Tw):p:=h
theorem agF {p:Prop} (h:p:=by
 intro eY a H
 try have pW:=dF eY
 refine kP H (Kc K2 (SR fun _ K1=>ak K1 M ?_));clear H K2 K1;intro a H;refine lr H results119 M ?_
 exact Tw):p:=h
theorem anR(G:GH)(w0:World)(hG:Hold G w0)(i:Nat)(id:Nat->Int)(fv:aj)(hn:i<=4611686018427387904)(hf:wz fv G (i+1) id) :
  Calls prog 119 #[vi i,fv] w0 (bD w0 G fun u G'=>u=vi (yh id i)):=by
 refine eN [(0,_),(1,_)] func119 M ntmps119 M M hG<|SR fun _ K1=>ak K1 M<|SQ fun _ K2=>SB<|SR fun _ K3=>Rm M<|Rm M fun a H=>ow H wn M M (hf i (Nat.lt_succ_self _) _ _ (fun _ _ h=>h) H.ro) M ?_;clear H;rintro v8 G8 a w rfl El H;refine s_call zX H wn M (Aq _ _ H.ro (id i) 1 1073741824) M ?_;clear H;rintro v9 _ a w ⟨rfl,rfl⟩-H;refine kH H (Rn M<|ak K3 M<|Cd M ?_ ?_)<;>clear H K3
 ·intro h5 a H
  try have p5:=dT h5
  exact Uc
 intro h5 a H
 try have p5:=dF h5
 refine kP H (SR fun _ K1=>Rm M<|Rc M<|Rm M<|Sp 14 M ?_ ?_)<;>clear H
 ·intro dW a H
  try have kF:=dT dW
  refine kH H<|YM dW M<|YM dW M fun a H=>ow H (wg H M M dW) M M (hf i (Nat.lt_succ_self _) _ _ El H.ro) M ?_;clear H;rintro v17 DT a w rfl xX H;refine kH H<|YM dW M<|YM dW M fun a H=>EH _ H (wg H M M dW) M M M O O M ?_;clear H;intro a H;rw[show((i:Int)-1)=((i-1:Nat):Int) by omega]at H;refine ow H (wg H M M dW) M M (hf (i-1) O _ _ (fun b o h=>xX b o<|El b o h) H.ro) M ?_;clear H;rintro v21 BZ a w rfl ny H;refine kH H (YC dW M<|Pt dW M<|ak K1 M<|Cd M ?_ ?_)<;>clear H K1
  ·intro h11 a H
   try have pR:=dT h11
   exact Uc
  intro h11 a H
  try have pR:=dF h11
  refine kP H (SR fun _ K1=>Rm M<|Rc M<|Rm M<|Sp 27 M ?_ ?_)<;>clear H
  ·intro h27 a H
   try have p27:=dT h27
   refine kH H (YM h27 M (YM h27 M fun a H=>ow H (wg H M M h27) M M (hf i (Nat.lt_succ_self _) _ _ (fun b o h=>by first|exact ny b o (xX b o<|El b o h)|(exfalso;omega)) H.ro) rfl ?_));clear H;rintro v30 GR a w rfl Bw H;refine kH H<|YM h27 M<|YM h27 M fun a H=>EH _ H (wg H M M h27) M M M O O M ?_;clear H;intro a H;rw[show((i:Int)-1)=((i-1:Nat):Int) by omega]at H;refine ow H (wg H M M h27) M M (hf (i-1) O _ _ (fun b o h=>by first|exact Bw b o (ny b o<|xX b o<|El b o h)|(exfalso;omega)) H.ro) rfl ?_;clear H;rintro v34 G34 a w rfl amD H;refine kH H (YC h27 M<|Pt h27 M<|ak K1 M<|Cd M ?_ ?_)<;>clear H K1
   ·intro eY a H
    try have pW:=dT eY
    exact Uc
   exact agF
  intro h27 a H
  try have p27:=dF h27
  exact kH H<|bJ h27 M<|bJ h27 M<|aU h27 M<|Pf h27 M<|ak K1 M<|Cf M M<|Kc K2<|SR fun _ K3=>ak K3 M fun a H=>lr H results119 M Tw
 intro dW a H
 try have kF:=dF dW
 refine kH H (bJ dW M<|bJ dW M<|aU dW M<|Pf dW M<|ak K1 M<|Cf M M<|SR fun _ K3=>Rm M<|Rc M<|Rm M<|Sp 27 M ?_ ?_)<;>clear H K1
 ·intro h27 a H
  try have p27:=dT h27
  refine kH H (YM h27 M (YM h27 M fun a H=>ow H (wg H M M h27) M M (hf i (Nat.lt_succ_self _) _ _ (fun b o h=>by first|exact ny b o (xX b o<|El b o h)|(exfalso;omega)) H.ro) rfl ?_));clear H;rintro v30 GR a w rfl Bw H;refine kH H<|YM h27 M<|YM h27 M fun a H=>EH _ H (wg H M M h27) M M M O O M ?_;clear H;intro a H;rw[show((i:Int)-1)=((i-1:Nat):Int) by omega]at H;refine ow H (wg H M M h27) M M (hf (i-1) O _ _ (fun b o h=>by first|exact Bw b o (ny b o<|xX b o<|El b o h)|(exfalso;omega)) H.ro) rfl ?_;clear H;rintro v34 G34 a w rfl amD H;refine kH H (YC h27 M<|Pt h27 M<|ak K3 M<|Cd M ?_ ?_)<;>clear H K3
  ·intro eY a H
   try have pW:=dT eY
   exact Uc
  exact agF
 intro h27 a H
 try have p27:=dF h27
 exact kH H<|bJ h27 M<|bJ h27 M<|aU h27 M<|Pf h27 M<|ak K3 M<|Cf M M<|Kc K2<|SR fun _ K1=>ak K1 M fun a H=>lr H results119 M Tw
theorem qx:aW 50:=aX func50 M
theorem uT:aW 45:=aX func45 M
def yK(s:ByteArray):Bool:=decide (1<=s.size∧s.size<=40)&&iI s
theorem afs(G:GH)(w0:World)(hG:Hold G w0)(s:ByteArray)(hs:s.size<4611686018427387904):Calls prog 121 #[.string s] w0 (bD w0 G fun u G'=>u=.bool (yK s)∧G=G'):=by
 refine eN [(0,_)] func121 M ntmps121 M M hG ?_;intro a H;refine kP H (SR fun _ K1=>ak K1 M<|SR fun _ K2=>Rm M<|Rv gZ M<|Rc M<|Rm M<|Sp 6 M ?_ ?_)<;>clear H K1
 ·intro h6 a H
  try have p6:=dT h6
  refine kH H<|YM h6 M ?_;clear H;intro a H;refine Gj gZ H (wg H M M h6) M M ?_;clear H;intro a H;refine kH H (YC h6 M<|Pt h6 M<|Rm M<|Sp 11 M ?_ ?_)<;>clear H
  ·intro h11 a H
   try have pR:=dT h11
   refine kH H<|YM h11 M ?_;clear H;intro a H;refine s_call JJ H (wg H M M h11) M (Lj _ _ H.ro s hs) M ?_;clear H;rintro v13 _ a w ⟨rfl,rfl⟩-H;exact kH H (Pt h11 M (ak K2 M (LR results121 M fun H=>H.rt ⟨iN (by unfold yK;first|(simp_all;done)|(simp_all;omega)),rfl⟩)))
  intro h11 a H
  try have pR:=dF h11
  exact kH H (aU h11 M (Pf h11 M (ak K2 M (LR results121 M fun H=>H.rt ⟨iN (by unfold yK;first|(simp_all;done)|(simp_all;omega)),rfl⟩))))
 intro h6 a H
 try have p6:=dF h6
 exact kH H (bJ h6 M (Pf h6 M (Rm M (aU M M (Pf M M (ak K2 M (LR results121 M fun H=>H.rt ⟨iN (by unfold yK;first|(simp_all;done)|(simp_all;omega)),rfl⟩)))))))
def Gx(s:ByteArray):Int:=fD [dX (!iI s) 12,dX (decide (1024<(s.size:Int))) 10]
theorem Dr{G:GH}{b:Nat}{x y:Int}(h:G b=some (.cells #[vi x,vi y] 41 (0,0))):av G (.sl 1 ([x,y].map fun k=>[li k])) (.slice (some ⟨b,0,none⟩) 2 2) :=
 av.uK (n:=2) (cap:=2) h M (eP _) (show 2<=maxLen by decide) (jX<|eP _) (FZ G [x,y])
theorem arj(G:GH)(w0:World)(hG:Hold G w0)(s:ByteArray)(hs:s.size<4611686018427387904):Calls prog 193 #[.string s] w0 (bD w0 G fun u G'=>u=vi (Gx s)):=by
 refine eN [(0,_)] func193 M ntmps193 M M hG<|SR fun _ K1=>ak K1 M<|SR fun _ K2=>Rm M fun a H=>s_call JJ H wn M (Lj _ _ H.ro s hs) M ?_;rintro v4 _ a w ⟨rfl,rfl⟩-H;refine kH H<|Rn M fun a H=>s_call qx H wn M (qF _ _ H.ro _ 12) M ?_;rintro v6 _ a w ⟨rfl,rfl⟩-H;refine kH H<|Rm M<|Rv gZ M<|Rc M fun a H=>s_call qx H wn M (qF _ _ H.ro _ 10) M ?_;rintro v10 _ a w ⟨rfl,rfl⟩-H;refine iT tQ jS [_,_] [_,_] H wn M M M M M (by intro i q h;match i,h with|0,h=>exact h|1,h=>exact h|n+2,h=>simp at h) M M ?_;intro b11 a w Qx H;obtain⟨DN,QM,Ng,H⟩:=H.eX;refine s_call uT H wn M (uV _ _ H.ro _ _<|Dr Ng) M ?_;rintro v12 _ a w ⟨rfl,rfl⟩-H;exact kH H<|ak K2 M<|LR results193 M fun H=>H.rt M
def Iw(c:Int):Bool:=decide (97<=rP .or .u8 c 32)&&decide (rP .or .u8 c 32<=122)
def F8(c:Int):Bool:=(decide (48<=c)&&decide (c<=57))||decide (c=45)||decide (c=95)
def NW(s:ByteArray)(k:Nat):Bool:=Iw (eO s k)||(decide (k≠0)&&F8 (eO s k))
def pq(s:ByteArray):Bool:=decide (1<=s.size∧s.size<=40)&&(List.range s.size).all (NW s)
theorem Ml {p:Prop} (h:p:=by
 first|(simp_all;done)|(simp_all;omega)):p:=h
theorem YT {p:Prop} (h:p:=by
 first
  | exact H.rt ⟨iN (by
    unfold pq
    rw[show k=s.size by omega]at hall
    rw [hall,kZ O];rfl),rfl⟩
  | exact H.rt ⟨iN (by
    unfold pq
    rw [show (List.range s.size).all (NW s)=false from List.all_eq_false.2 ⟨k,by simpa using hk2,by unfold NW;simp_all⟩,Bool.and_false]),M⟩):p:=h
theorem afZ {p:Prop} (h:p:=by
 exact ⟨O,by rw [List.range_succ,List.all_append,hall];simp [NW];simp_all⟩):p:=h
theorem aii {p:Prop} (h:p:=by
 intro h46 a H
 try have p46:=dT h46
 refine kH H (aU h46 M (aU h46 M (Pt h46 M (Ra M ?_))));clear H;intro a H;refine aI ?_;refine⟨_,by exact H.sub ⟨M,M,M,M,M,M,aC⟩,?_⟩
 unfold F8;exact Ml):p:=h
theorem Ul(G:GH)(w0:World)(hG:Hold G w0)(s:ByteArray)(hs:s.size<4611686018427387904):Calls prog 60 #[.string s] w0 (bD w0 G fun u G'=>u=.bool (pq s)∧G=G'):=by
 refine eN [(0,_)] func60 M ntmps60 M M hG ?_;intro a H;refine kP H (SR fun _ K1=>ak K1 M<|SQ fun _ K2=>SR fun _ K3=>Rm M<|Rv gZ M<|Rc M<|Rm M<|Sp 10 M ?_ ?_)<;>clear H K1
 ·intro h10 a H
  try have lC:=dT h10
  exact kH H (bJ h10 M<|Pt h10 M<|Kz K3<|Ct M M<|SR fun _ K1=>ak K1 M<|LR results60 M fun H=>H.rt ⟨iN (by unfold pq;rw[mE O];rfl),rfl⟩)
 intro h10 a H
 try have lC:=dF h10
 refine kH H<|YM h10 M ?_;clear H;intro a H;refine Gj gZ H (wg H M M h10) M M ?_;clear H;intro a H;refine kH H (YC h10 M<|Pf h10 M<|Kz K3<|Cd M ?_ ?_)<;>clear H K3
 ·intro dW a H
  try have kF:=dT dW
  exact kP H (SR fun _ K1=>ak K1 M<|LR results60 M fun H=>H.rt ⟨iN (by unfold pq;rw[mE O];rfl),rfl⟩)
 intro dW a H
 try have kF:=dF dW
 refine kP H<|Kc K2<|SQ fun _ K1=>SR fun _ K3=>Rm M<|Rv gZ M<|Rm M<|Kz K3<|SB ?_;clear H K2 K3;intro a H;skip;refine dY (ι:=Nat) (Tc:=[(0,_),(16,_)]) (Lc:=[]) (fun gh=>[(17,vi gh)]) (fun gh=>[]) (fun gh=>G) (fun gh=>gh<=s.size∧(List.range gh).all (NW s)=true) (fun gh=>s.size-gh) (0) (by exact H.sub ⟨M,M,M,aC⟩) ?_ ?_
 ·exact Mk
 clear H;intro k a w hI H;obtain⟨hk,hall⟩:=hI;dsimp only[lca,bq]at H;refine kP H (SR fun _ K2=>Rc M<|Kz K2<|SQ fun _ K3=>Cd M ?_ ?_)<;>clear H K2
 ·intro h18 a H
  try have pU:=dT h18
  have hk2:k<s.size:=by omega
  refine kP H<|Kc K3<|SQ fun _ K2=>SB<|SR fun _ K4=>Rm M<|ak K4 M<|SR fun _ K5=>Rm M<|Rm M ?_;clear H K3 K4;intro a H;refine qO k gZ H wn M M M O M ?_;clear H;intro a H;rw[<-lN]at H;refine R5 M H wn M M M ?_;clear H;intro a H;refine kH H<|ak K5 M ?_;clear H K5;intro a H;refine rQ (ι:=Bool) (Tc:=[(0,_),(3,_),(16,_),(17,_)]) (Lc:=[]) (fun gh=>[(5,.bool gh)]) (fun gh=>[]) (fun gh=>G) (fun gh=>gh=Iw (eO s k)) (by exact H.sub ⟨M,M,M,M,aC⟩) ?_ ?_
  ·skip;refine kP H (SC<|Rm M<|Rc M<|Rm M<|Sp 26 M ?_ ?_)<;>clear H
   ·intro jZ a H
    try have p26:=dT jZ
    refine kH H<|YM jZ M<|YC jZ M<|Pt jZ M<|Ra M ?_;clear H;intro a H;refine aI ?_;refine⟨_,by exact H.sub ⟨M,M,M,M,M,aC⟩,?_⟩
    unfold Iw;exact Ml
   intro jZ a H
   try have p26:=dF jZ
   refine kH H<|aU jZ M<|Pf jZ M<|Ra M ?_;clear H;intro a H;refine aI ?_;refine⟨_,by exact H.sub ⟨M,M,M,M,M,aC⟩,?_⟩
   unfold Iw;exact Ml
  clear H;intro lt a w hI H;have hlt:=hI;dsimp only[lca,bq]at H;refine rQ (ι:=Bool) (Tc:=[(0,_),(3,_),(5,_),(16,_),(17,_)]) (Lc:=[]) (fun gh=>[(6,.bool gh)]) (fun gh=>[]) (fun gh=>G) (fun gh=>gh=F8 (eO s k)) (by exact H.sub ⟨M,M,M,M,M,aC⟩) ?_ ?_
  ·skip;refine kP H<|SC<|Rm M<|Rm M ?_;clear H;intro a H;refine qO k gZ H wn M M M O M ?_;clear H;intro a H;rw[<-lN]at H;refine kH H (Rc M<|Rm M<|Sp 34 M ?_ ?_)<;>clear H
   ·intro iB a H
    try have p34:=dT iB
    refine kH H<|YM iB M<|YM iB M ?_;clear H;intro a H;refine qO k gZ H (wg H M M iB) M M M O M ?_;clear H;intro a H;rw[<-lN]at H;refine kH H (YC iB M<|Pt iB M<|Rm M<|Sp 40 M ?_ ?_)<;>clear H
    ·intro nY a H
     try have p40:=dT nY
     refine kH H<|aU nY M<|aU nY M<|Pt nY M<|Rm M<|aU M M<|aU M M<|Pt M M<|Ra M ?_;clear H;intro a H;refine aI ?_;refine⟨_,by exact H.sub ⟨M,M,M,M,M,M,aC⟩,?_⟩
     unfold F8;exact Ml
    intro nY a H
    try have p40:=dF nY
    refine kH H<|YM nY M<|YM nY M ?_;clear H;intro a H;refine qO k gZ H (wg H M M nY) M M M O M ?_;clear H;intro a H;rw[<-lN]at H;refine kH H (YC nY M<|Pf nY M<|Rm M<|Sp 46 M ?_ ?_)<;>clear H
    ·exact aii
    intro h46 a H
    try have p46:=dF h46
    refine kH H<|YM h46 M<|YM h46 M ?_;clear H;intro a H;refine qO k gZ H (wg H M M h46) M M M O M ?_;clear H;intro a H;rw[<-lN]at H;refine kH H<|YC h46 M<|Pf h46 M<|Ra M ?_;clear H;intro a H;refine aI ?_;refine⟨_,by exact H.sub ⟨M,M,M,M,M,M,aC⟩,?_⟩
    unfold F8;exact Ml
   intro iB a H
   try have p34:=dF iB
   refine kH H<|aU iB M<|aU iB M<|Pf iB M<|Rm M ?_;clear H;intro a H;(iterate 2 refine IQ H (wg H M M M) M M ?_;clear H;intro a H);refine qO k gZ H (wg H M M M) M M M O M ?_;clear H;intro a H;rw[<-lN]at H;refine KX H (wg H M M M) M M M M ?_;clear H;intro a H;refine kH H (Pf M M<|Rm M<|Sp 46 M ?_ ?_)<;>clear H
   ·exact aii
   intro h46 a H
   try have p46:=dF h46
   refine kH H<|YM h46 M<|YM h46 M ?_;clear H;intro a H;refine qO k gZ H (wg H M M h46) M M M O M ?_;clear H;intro a H;rw[<-lN]at H;refine kH H<|YC h46 M<|Pf h46 M<|Ra M ?_;clear H;intro a H;refine aI ?_;refine⟨_,by exact H.sub ⟨M,M,M,M,M,M,aC⟩,?_⟩
   unfold F8;exact Ml
  clear H;intro ot a w hI H;have hot:=hI;dsimp only[lca,bq]at H;refine kP H (SR fun _ K3=>Rm M<|Rn M<|Rm M<|Sp 54 M ?_ ?_)<;>clear H
  ·intro lT a H
   try have p54:=dT lT
   refine kH H (YM lT M<|YC lT M<|YM lT M<|Sp 57 M ?_ ?_)<;>clear H
   ·intro h57 a H
    try have p57:=dT h57
    refine kH H<|aU h57 M<|PT lT h57 M<|Pt lT M<|Kz K3<|Ct M M<|SR fun _ K4=>ak K4 M ?_;clear H K3 K4;intro a H;refine lr H results60 M ?_
    exact YT
   intro h57 a H
   try have p57:=dF h57
   refine kH H (YM h57 M<|YN h57 M<|PF lT h57 M<|Pt lT M<|Kz K3<|Cd M ?_ ?_)<;>clear H K3
   ·intro tu a H
    try have p61:=dT tu
    refine kP H<|SR fun _ K3=>ak K3 M ?_;clear H K3;intro a H;refine lr H results60 M ?_
    exact YT
   intro tu a H
   try have p61:=dF tu
   refine kP H<|Kc K2<|SC<|Rd M<|Rm M ?_;clear H K2;intro a H;refine aI ?_;refine dO ((k+1)) (by exact H.sub ⟨M,M,M,aC⟩) ?_
   exact afZ
  intro lT a H
  try have p54:=dF lT
  refine kH H<|bJ lT M<|Ku M<|Ku M<|Ks lT M<|Pf lT M<|Kz K3<|Cf M M<|Kc K2<|SC<|Rd M<|Rm M ?_;clear H K3 K2;intro a H;refine aI ?_;refine dO ((k+1)) (by exact H.sub ⟨M,M,M,aC⟩) ?_
  exact afZ
 intro h18 a H
 try have pU:=dF h18
 refine dS ?_;refine K1 _ _ ?_;clear K1;refine kP H<|SR fun _ K1=>ak K1 M ?_;clear H K1;intro a H;refine lr H results60 M ?_
 exact YT
section
section
variable{N:Nat}{D:List Deferred}{w0:World}{F:Nat->Prop}{G0 G:GH}{L:OL}{T:List (Nat×aj)}
variable{r:Option Nat}{P:Program}{ops:Array Oper}{Q:Exit->Act->World->Prop}{rest:List Oper}{a:Act}{w:World}
variable{d:Nat}{ty:TypeId}{pos:String}{aT:Array Edge}{g:Option (Nat×Bool)}
end
end
theorem aED:liesAt prog prog.depth 338 (7/prog.cellsOf 338) 2 149 1=true:=by kernel_rfl
theorem OB:Ty prog 5 1 1 [.int .u8 0] false:=⟨V,V⟩
abbrev jg(b:Nat)(s:ByteArray)(i:Int)(p v q:aj)(pl e:Int):Nat×Obj:=(b,.cells #[.string s,vi i,p,v,q,vi pl,vi e] 338 (0,0))
theorem aHl(G:GH)(L:OL)(w0:World)(b:Nat)(s:ByteArray)(i:Int)(A:Option Addr)(n c:Nat)(B:Option Addr)(m d:Nat)(pl e:Int)(hO:fZ G (jg b s i (.pointer none) (.slice A n c) (.slice B m d) pl e::L) w0) :
  Calls prog 152 #[aK b 2] w0 (fG w0 G (jg b s i (.pointer none) (.slice A n c) (.slice B m d) pl e::L) fun u G' L'=>L'=jg b s i (aK b 2) (.slice A n c) (.slice B m d) pl e::L∧G'=G):=by
 refine iY (N:=20) (T:=[(0,_)]) func152 M ntmps152 M M hO<|SR fun _ K1=>Rm M<|Rk M<|aV Hw IU 0 M M fun a H=>WT EO H wn M M fun a H=>K1 _ _<|jU H M ?_ ?_
 ·intro h6;exact kP H<|SC<|Rm M<|Rm M fun a H=>aqx EO Xo Ot H wn M 0 M M M fun a H=>aqt (xs:=[.tmp 9]) (apd _) H wn M M fun a H=>aqn Xo EO Ot H wn M 0 M aED M aij
 intro h6;exact absurd h6 Z
theorem aHm(G:GH)(L:OL)(w0:World)(b:Nat)(s:ByteArray)(i:Int)(A:Option Addr)(n c:Nat)(B:Option Addr)(m d:Nat)(pl e:Int)(hO:fZ G (jg b s i (aK b 2) (.slice A n c) (.slice B m d) pl e::L) w0) :
  Calls prog 152 #[aK b 2] w0 (fG w0 G (jg b s i (aK b 2) (.slice A n c) (.slice B m d) pl e::L) fun u G' L'=>L'=jg b s i (aK b 2) (.slice A n c) (.slice B m d) pl e::L∧G'=G):=by
 refine iY (N:=20) (T:=[(0,_)]) func152 M ntmps152 M M hO<|SR fun _ K1=>Rm M<|Rk M<|aV Hw IU 0 M M fun a H=>WT EO H wn M M fun a H=>K1 _ _<|jU H M ?_ ?_
 ·intro h6;exact absurd h6 (by simp)
 intro h6;refine kP H<|SR fun _ K1=>Rm M<|Rk M<|aV Hw IU 0 M M<|Rm M fun a H=>aqs EO Ot H wn M M M fun a H=>K1 _ _<|jU H M ?_ ?_
 ·intro h19;exact absurd h19 Z
 intro h19;refine fU ((leave0 H results152 ?_).2);exact Tt
theorem aHn(G:GH)(L:OL)(w0:World)(b:Nat)(s:ByteArray)(i:Int)(p:aj)(A:Option Addr)(n c:Nat)(B:Option Addr)(m d:Nat)(pl e:Int)(hp:p=.pointer none∨p=(aK b 2))(hO:fZ G (jg b s i p (.slice A n c) (.slice B m d) pl e::L) w0) :
  Calls prog 152 #[aK b 2] w0 (fG w0 G (jg b s i p (.slice A n c) (.slice B m d) pl e::L) fun u G' L'=>L'=jg b s i (aK b 2) (.slice A n c) (.slice B m d) pl e::L∧G'=G):=by
 rcases hp with rfl|rfl
 ·exact aHl G L w0 b s i A n c B m d pl e hO
 exact aHm G L w0 b s i A n c B m d pl e hO
theorem ase(G:GH)(Lp Lo:OL)(w0:World)(b:Nat)(s:ByteArray)(i:Int)(p v:aj)(B:Option Addr)(m d:Nat)(pl e:Int)(n:Nat)(xs:List aj)(c:Int)(hp:p=.pointer none∨p=(aK b 2))(hO:fZ G (jg b s i p v (.slice B m d) pl e::(Lp++Lo)) w0)(hrow:bT 5 1 v n xs Lo)(hn:n<=4294967296) :
  Calls prog 257 #[aK b 2,.int .u8 c] w0 (fG w0 G (jg b s i p v (.slice B m d) pl e::(Lp++Lo)) fun u G' L'=>∃v' gP,L'=jg b s i (aK b 2) v' (.slice B m d) pl e::(Lp++gP)∧bT 5 1 v' (n+1) (xs++[.int .u8 c]) gP∧G'=G):=by
 have hml:maxLen=9223372036854775807:=rfl;obtain⟨A,c0,rfl,-,-⟩:=hrow.shape;obtain⟨Lt,uY⟩:∃x,x=Lp++Lo:=⟨_,M⟩;rw[<-uY]at hO|-;refine iY (N:=17) (T:=[(0,_),(1,_)]) func257 M ntmps257 M M hO<|SR fun _ K1=>ak K1 M<|SR fun _ K2=>Rm M fun a H=>gM ajP (Li:=[]) (L:=jg b s i p _ (.slice B m d) pl e::Lt) H wn M (aHn _ _ _ b s i p A n c0 B m d pl e hp<|Hp.owns (Li:=[]) H.hp) M ?_;rintro v6 _ L6 a w ⟨rfl,rfl⟩ Kl H;dsimp only[List.nil_append]at H;refine K2 _ _ (kP H<|SR fun _ K1=>Rm M<|Rm M<|Rk M<|aV Bj BQ 0 M M<|Rm M fun a H=>iT zy OB [_] [_] H wn M M M M M (by intro i q h;match i,h with|0,h=>exact h|n+1,h=>simp at h) M M ?_);intro b13 a w Qy H;subst uY;have H:=St.un (A:=[_,_]) (B:=Lp) (C:=Lo) H;refine lW (Li:=[_,_]++Lp) (Lo:=Lo) (news:=[.int .u8 c]) zy OB M M H wn M M hrow M (H.hp.dB 0 M M) M O O M ?_;intro v14 aeC a w Ip H;obtain⟨XF,c14,rfl,-,-⟩:=Ip.shape;have H:=H.assoc;dsimp only[lca,bq]at H;exact kH H<|Rk M<|Rf Bj M fun a H=>bH BQ 1 (vs:=[_]) H wn M fun w H=>K1 _ _<|kP H<|SR fun _ K1=>ak K1 M<|LR results257 M fun H=>H.hp.lU (L':=jg b s i _ _ _ pl e::(Lp++aeC)) (E5 _ _) ⟨_,_,M,Ip,M⟩
theorem aHK(G:GH)(L:OL)(w0:World)(b:Nat)(s:ByteArray)(i:Int)(p:aj)(A:Option Addr)(n c:Nat)(B:Option Addr)(m d:Nat)(pl e:Int)(hO:fZ G (jg b s i p (.slice A n c) (.slice B m d) pl e::L) w0) :
  Calls prog 272 #[aK b 2] w0 (fG w0 G (jg b s i p (.slice A n c) (.slice B m d) pl e::L) fun u G' L'=>u=vi n∧L'=jg b s i p (.slice A n c) (.slice B m d) pl e::L∧G'=G):=by
 exact iY (N:=8) (T:=[(0,_)]) func272 M ntmps272 M M hO<|SR fun _ K1=>ak K1 M<|SR fun _ K2=>Rm M<|Rk M<|aV Bj BQ 0 M M<|Rl zy M<|ak K2 M<|LR results272 M fun H=>H.hp.gX ⟨M,M,M⟩
theorem aH1(G:GH)(L:OL)(w0:World)(b:Nat)(s:ByteArray)(i:Int)(p:aj)(A:Option Addr)(n c:Nat)(B:Option Addr)(m d:Nat)(pl e:Int)(hO:fZ G (jg b s i p (.slice A n c) (.slice B m d) pl e::L) w0) :
  Calls prog 273 #[aK b 2] w0 (fG w0 G (jg b s i p (.slice A n c) (.slice B m d) pl e::L) fun u G' L'=>L'=jg b s i (.pointer none) (.slice none 0 0) (.slice B m d) pl e::L∧G'=G):=by
 refine iY (N:=8) (T:=[(0,_)]) func273 M ntmps273 M M hO<|SR fun _ K1=>Rm M<|Rk M<|Rf Hw M fun a H=>bH IU 0 (vs:=[_]) H wn M fun w H=>K1 _ _<|kP H<|SC<|Rm M<|Rk M<|Rf Bj M fun a H=>bH BQ 0 (vs:=[_]) H wn M fun w H=>aI ((leave0 H results273 ?_).2);exact Tt
theorem aH3(G:GH)(Lp Lo:OL)(w0:World)(b:Nat)(s:ByteArray)(i:Int)(p v:aj)(B:Option Addr)(m d:Nat)(pl e:Int)(l:List UInt8)(hO:fZ G (jg b s i p v (.slice B m d) pl e::(Lp++Lo)) w0)(hrow:bT 5 1 v l.length (Lib.byteCells l) Lo)(h0:l≠[]) :
  Calls prog 76 #[aK b 2] w0 (fG w0 G (jg b s i p v (.slice B m d) pl e::(Lp++Lo)) fun u G' L'=>u=.string ⟨l.toArray⟩∧L'=jg b s i p v (.slice B m d) pl e::Lp):=by
 rcases hrow.2 with⟨-,h,-⟩|⟨b2,cap,cur,rfl,rfl,hc1,hc2,hc3,hc4⟩
 ·exact absurd (List.eq_nil_of_length_eq_zero h) h0
 have hl0:l.length≠0:=fun h=>h0<|List.eq_nil_of_length_eq_zero h;have hml:maxLen=9223372036854775807:=rfl;obtain⟨Lt,uY⟩:∃x,x=Lp++[(b2,Obj.cells cur 5 (0,0))]:=⟨_,M⟩;rw[<-uY]at hO|-;refine iY (N:=14) (T:=[(0,_)]) func76 M ntmps76 M M hO ?_;intro a H;refine kP H<|SR fun _ K1=>ak K1 M<|SQ fun _ K2=>?_;clear H K1;intro a H;have H:=H.sub (T':=[(0,_)]) ⟨M,aC⟩;refine dI hmx [[],[0],[0,1],[0,1,2],ra 0 4,[],[5],[5,6],[5,6,7],ra 5 4,ra 0 10,ra 0 11] [10,11] V [_,_,_,.slice (some ⟨b2,0,none⟩) l.length cap,aK b2 0,_,_,_,.slice (some ⟨b2,0,none⟩) l.length cap,_] H (aD (Z0 M<|Rm M) (Z1 0 3 M<|Rk M) (Z1 1 4 M<|Rf Bj M) (Z1 2 5 M<|Ro BQ 0 M)<|aD ?_ (Z0 M<|Rm M) (Z1 5 8 M<|Rk M) (Z1 6 9 M<|Rf Bj M)<|aD (Z1 7 10 M<|Ro BQ 0 M) (Z1 8 11 M<|Rl zy M) (bX M) (bX M) dz) ?_
 ·exact ahz
 clear H;intro a w G jL H hv;have H:=H.aQ (hv 4 7 M M) M;have H:=H.aQ (hv 9 12 M M) M;clear hv;subst uY;have H:=H.perm<|List.Perm.cons _ vD;dsimp only[lca,bq]at H;refine adS (i:=1) l aem aiR h0 O H wn M M M (by rw[<-hc4,Nat.mul_one]) M ?_;clear H;intro fz a w H;dsimp only[List.set]at H;refine kH H<|Ra M ?_;clear H;intro a H;refine aI ⟨M,?_⟩;refine K2 _ _ ?_;clear K2;refine lr H results76 M ?_;exact H.hp.lU (L':=jg b s i _ _ _ pl e::Lp) (List.Sublist.cons_cons _<|E5 _ _) ⟨M,M⟩
section
section
variable{N:Nat}{D:List Deferred}{w0:World}{F:Nat->Prop}{G0 G G1 G2:GH}{L L1 L2:OL}{T Xs:List (Nat×aj)}
variable{r:Option Nat}{P:Program}{Q:Exit->Act->World->Prop}{l:List Oper}{a a':Act}{w w':World}
theorem DX.perm{pr:Nat->aj->GH->Prop}{S:Nat->Bool}(h:DX N D w0 F G0 G L1 T l pr S a w)(hp:L1.Perm L2):DX N D w0 F G0 G L2 T l pr S a w:=by
 obtain⟨G1,hG,HS,hv⟩:=h
 exact⟨G1,hG,HS.perm hp,hv⟩
end
end
end Go.Proofs.YtdgnnpjijhafaaaGreat
