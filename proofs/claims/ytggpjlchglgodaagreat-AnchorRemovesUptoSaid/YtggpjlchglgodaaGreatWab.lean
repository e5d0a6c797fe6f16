/-
  What the claim stands on, part 2: Ut Cp Prk Run Ehd Rg Pos Eqi Pq Rve Doc Dq Idx Bld Prp Plc Plr Prq Prc Fst.
-/
import Derived.Test.YtggpjlchglgodaaGreatWaa
import Derived.Lib.OthersKept
import Derived.Laws.IdiomStrings
import Derived.Laws.Cover4
import Derived.Laws.Slices
import Derived.Laws.Strings2
import Derived.Test.YtggpjlchglgodaaGreatRows
namespace Go.Proofs.YtggpjlchglgodaaGreat
set_option linter.all false
open Go.Proofs.Tryz
open Go.RowKit
section
structure aaw (P:Program) (s n off:Nat):Prop where
 h:(match P.underlying s with|some (.struct fs)=>(fs[n]?).bind fun f=>((P.underlying f.type).map (fun|.struct _=>true|.array _ _=>true|_=>false)).map fun g=>(f.offset,g)|_=>none)=some (off,false)
theorem aaw.parts {P:Program} {s n off:Nat} (h:aaw P s n off):∃ fs fl u,P.underlying s=some (.struct fs)∧fs[n]?=some fl∧P.underlying fl.type=some u∧(match u with|.struct _=>true|.array _ _=>true|_=>false)=false∧fl.offset=off:=by
 obtain ⟨h⟩:=h
 split at h
 ·rename_i fs hs
  obtain ⟨fl,hf,h2⟩:=Option.bind_eq_some_iff.1 h
  obtain ⟨b,hb,h3⟩:=nG.1 h2
  obtain ⟨u,hu,h4⟩:=nG.1 hb
  simp only [iE] at h3
  refine ⟨fs,fl,u,hs,hf,hu,?_,h3.1⟩
  rw [<- h3.2,<- h4]
  cases u <;> rfl
 ·cases h
section
variable {N:Nat} {D:List Deferred} {w0:World} {F:Nat->Prop} {G0 G:GH} {L Li Lo:OL} {T:List (Nat × ah)}
variable {r:Option Nat} {P:Program} {ops:Array Oper} {Q:Exit->Act->World->Prop} {rest:List Oper} {a:Act} {w:World}
variable {d:Nat} {ty:TypeId} {pos:String} {aL:Array Edge} {g:Option (Nat × Bool)}
theorem aA9 {t:TypeId} {x y:Operand} {s:ByteArray} {ky:IntKind} {p:Int} (lo:Nat) (ht:P.underlying t=some .string) (H:St N D w0 F G0 G L T a w) (hw:Region.wanted ⟨some d,.slice t x (some y) none none,ty,pos,aL,g⟩ (yielded ops a.tmps)=true) (hx:ev T x=some (.string s)) (hy:ev T y=some (.int ky p)) (hp:p=(lo:Int)) (h1:lo<=s.size) (hd:Nat.blt d N=true)
  (k:∀ a',St N D w0 F G0 G L ((d,.string (s.extract lo s.size)) :: T) a' w->WL r P ops Q rest a' w):WL r P ops Q (⟨some d,.slice t x (some y) none none,ty,pos,aL,g⟩ :: rest) a w:=by
 subst hp
 have hr:=run_slice_string_l (P:=P) w t s ht ky (lo:Int) V V
 rw [Int.toNat_natCast] at hr
 refine fQ (v:=.string (s.extract lo s.size)) (w':=w) hw O ?_ (k _ (H.put hd _ H.hp))
 simp only [execOp,H.ev hx,Option.map_some,Option.map_none,H.ev hy,dM,run_sliceAt_string w t _ _ _ _ ht,hr,kW,rW]
theorem aA8 {t e:TypeId} {sz bytes:Nat} {zero:List ah} {agg:Bool} (hs:P.underlying t=some (.slice e)) (ht:Ty P e sz bytes zero agg) {x y:Operand} {A:Option Addr} {n c:Nat} (lo:Nat) {p:Int} (H:St N D w0 F G0 G L T a w)
  (hw:Region.wanted ⟨some d,.slice t x (some y) none none,ty,pos,aL,g⟩ (yielded ops a.tmps)=true) (hx:ev T x=some (.slice A n c)) (hy:ev T y=some (.int .i64 p)) (hp:p=(lo:Int)) (h1:lo<=n) (hd:Nat.blt d N=true)
  (k:∀ a',St N D w0 F G0 G L ((d,.slice (if c=lo then A else A.map (·.add (lo*sz))) (n - lo) (c - lo)) :: T) a' w->WL r P ops Q rest a' w):WL r P ops Q (⟨some d,.slice t x (some y) none none,ty,pos,aL,g⟩ :: rest) a w:=by
 subst hp
 refine fQ (v:=.slice (if c=lo then A else A.map (·.add (lo*sz))) (n - lo) (c - lo)) (w':=w) hw O ?_ (k _ (H.put hd _ H.hp))
 simp [execOp,H.ev hx,H.ev hy,Instr.sliceAt,Instr.slice,Instr.sliceBounds,Instr.sliceBound,dM,lC hs,ht.CP,asIntOf,h1]
end
end
theorem mQ:prog.underlying 3=some (.int .i64):=by kernel_rfl
theorem OH:prog.underlying 5=some (.int .u8):=by kernel_rfl
theorem iI:prog.underlying 9=some .string:=by kernel_rfl
theorem arE:aW 254:=aY func254 O
theorem arb:aW 230:=aY func230 O
theorem aqu:aW 181:=aY func181 O
theorem MX:aW 101:=aY func101 O
def wW (b:Int):Int × Int × Int :=
  (if b=224 then 160 else if b=240 then 144 else 128,if b=237 then 159 else if b=244 then 143 else 191,
   if b < 128 then 1 else if b < 194∨244 < b then 0 else if b < 224 then 2 else if b < 240 then 3 else 4)
theorem ZR (b:Int):0<=(wW b).2.2∧(wW b).2.2<=4:=by
 simp only [wW];split
 ·omega
 split
 ·omega
 split
 ·omega
 split <;> omega
theorem UJ {p:Prop} (h:p:=by
 first|(exfalso;omega)|exact H.rt ⟨by simp only [wW];repeat (first|rw [jZ]|rw [cu]),O⟩):p:=h
theorem Dw {p:Prop} (h:p:=by
 intro a H;refine gu ?_;refine (jQ H results254 (.cons (fE H O) (.cons (fE H O) (.cons (fE H O) .nil))) ?_).1
 exact UJ):p:=h
theorem anN {p:Prop} (h:p:=by
 refine gu ?_;refine (jQ H results254 (.cons (fE H O) (.cons (fE H O) (.cons (fE H O) .nil))) ?_).1
 exact UJ):p:=h
theorem qY {p:Prop} (h:p:=by
 intro a H;exact anN):p:=h
theorem aB8 (G:GH) (w0:World) (hG:Hold G w0) (b:Int) :
  Calls prog 254 #[.int .u8 b] w0 (bG w0 G fun v G'=>v=.tuple #[.int .u8 (wW b).1,.int .u8 (wW b).2.1,.int .i64 (wW b).2.2]∧G=G'):=by
 refine eN [(0,_)] func254 O ntmps254 O O hG ?_;intro a H;refine kP H (SR fun _ K1=>Ra O (Ra O (au K1 O (SR fun _ K2=>Ra O (au K2 O (SQ fun _ K3=>SB (SR fun _ K4=>Rm O (Rc O (au K4 O (Cd O ?_ ?_)))))))))) <;> clear H K1 K2 K4
 ·intro h5 a H
  try have p5:=dT h5
  refine kP H (SC (aZ K3 O (SQ fun _ K5=>SR fun _ K6=>Rm O (Kz K6 (SB (SR fun _ K7=>Rc O (au K7 O (Cd O ?_ ?_)))))))) <;> clear H K3 K6 K7
  ·intro h22 a H
   try have oI:=dT h22
   refine kP H (SC (aZ K5 O (SR fun _ K8=>Rm O (Rm O (Rm O (Ra O (Ra O (au K8 O ?_))))))));clear H K5 K8;exact qY
  intro h22 a H
  try have oI:=dF h22
  refine kP H (SR fun _ K9=>Rc O (au K9 O (Cd O ?_ ?_))) <;> clear H K9
  ·intro dU a H
   try have lK:=dT dU
   refine kP H (SC (aZ K5 O (SR fun _ aT=>Rm O (Rm O (Rm O (Ra O (Ra O (au aT O ?_))))))));clear H K5 aT;exact qY
  intro dU a H
  try have lK:=dF dU
  refine kP H (SR fun _ bJ=>Rc O (au bJ O (Cd O ?_ ?_))) <;> clear H bJ
  ·intro iY a H
   try have p26:=dT iY
   refine kP H (SC (aZ K5 O (SR fun _ bO=>Rm O (Rm O (Rm O (Ra O (Ra O (au bO O ?_))))))));clear H K5 bO;exact qY
  intro iY a H
  try have p26:=dF iY
  refine kP H (SR fun _ bU=>Rc O (au bU O (Cd O ?_ ?_))) <;> clear H bU
  ·intro eY a H
   try have p28:=dT eY
   refine kP H (SC (aZ K5 O (SR fun _ bZ=>Rm O (Rm O (Rm O (Ra O (Ra O (au bZ O ?_))))))));clear H K5 bZ;exact qY
  intro eY a H
  try have p28:=dF eY
  refine kP H (Kc K5 (SR fun _ dP=>Rm O (Rm O (Rm O (Ra O (Ra O (au dP O ?_)))))));clear H K5 dP;exact Dw
 intro h5 a H
 try have p5:=dF h5
 refine kP H (SR fun _ dY=>Rm O (Rc O (Rm O (Sp 11 O ?_ ?_)))) <;> clear H
 ·intro h11 a H
  try have qp:=dT h11
  refine kH H (aR h11 O (Pt h11 O (au dY O (Ct O O (SC (aZ K3 O (SQ fun _ dQ=>SR fun _ eX=>Rm O (Kz eX (SB (SR fun _ gM=>Rc O (au gM O (Cd O ?_ ?_)))))))))))) <;> clear H dY K3 eX gM
  ·intro h22 a H
   try have oI:=dT h22
   refine kP H (SC (aZ dQ O (SR fun _ fI=>Rm O (Rm O (Rm O (Ra O (Ra O (au fI O ?_))))))));clear H dQ fI;exact qY
  intro h22 a H
  try have oI:=dF h22
  refine kP H (SR fun _ gQ=>Rc O (au gQ O (Cd O ?_ ?_))) <;> clear H gQ
  ·intro dU a H
   try have lK:=dT dU
   refine kP H (SC (aZ dQ O (SR fun _ jw=>Rm O (Rm O (Rm O (Ra O (Ra O (au jw O ?_))))))));clear H dQ jw;exact qY
  intro dU a H
  try have lK:=dF dU
  refine kP H (SR fun _ kK=>Rc O (au kK O (Cd O ?_ ?_))) <;> clear H kK
  ·intro iY a H
   try have p26:=dT iY
   refine kP H (SC (aZ dQ O (SR fun _ kD=>Rm O (Rm O (Rm O (Ra O (Ra O (au kD O ?_))))))));clear H dQ kD;exact qY
  intro iY a H
  try have p26:=dF iY
  refine kP H (SR fun _ jF=>Rc O (au jF O (Cd O ?_ ?_))) <;> clear H jF
  ·intro eY a H
   try have p28:=dT eY
   refine kP H (SC (aZ dQ O (SR fun _ kR=>Rm O (Rm O (Rm O (Ra O (Ra O (au kR O ?_))))))));clear H dQ kR;exact qY
  intro eY a H
  try have p28:=dF eY
  refine kP H (Kc dQ (SR fun _ lN=>Rm O (Rm O (Rm O (Ra O (Ra O (au lN O ?_)))))));clear H dQ lN;exact Dw
 intro h11 a H
 try have qp:=dF h11
 refine kH H (YM h11 O (YC h11 O (Pf h11 O (au dY O (Cd O ?_ ?_))))) <;> clear H dY
 ·intro h8 a H
  try have p8:=dT h8
  refine kP H (SC (aZ K3 O (SQ fun _ jJ=>SR fun _ qV=>Rm O (Kz qV (SB (SR fun _ rT=>Rc O (au rT O (Cd O ?_ ?_)))))))) <;> clear H K3 qV rT
  ·intro h22 a H
   try have oI:=dT h22
   refine kP H (SC (aZ jJ O (SR fun _ sQ=>Rm O (Rm O (Rm O (Ra O (Ra O (au sQ O ?_))))))));clear H jJ sQ;exact qY
  intro h22 a H
  try have oI:=dF h22
  refine kP H (SR fun _ ug=>Rc O (au ug O (Cd O ?_ ?_))) <;> clear H ug
  ·intro dU a H
   try have lK:=dT dU
   refine kP H (SC (aZ jJ O (SR fun _ sS=>Rm O (Rm O (Rm O (Ra O (Ra O (au sS O ?_))))))));clear H jJ sS;exact qY
  intro dU a H
  try have lK:=dF dU
  refine kP H (SR fun _ wo=>Rc O (au wo O (Cd O ?_ ?_))) <;> clear H wo
  ·intro iY a H
   try have p26:=dT iY
   refine kP H (SC (aZ jJ O (SR fun _ yw=>Rm O (Rm O (Rm O (Ra O (Ra O (au yw O ?_))))))));clear H jJ yw;exact qY
  intro iY a H
  try have p26:=dF iY
  refine kP H (SR fun _ uV=>Rc O (au uV O (Cd O ?_ ?_))) <;> clear H uV
  ·intro eY a H
   try have p28:=dT eY
   refine kP H (SC (aZ jJ O (SR fun _ Az=>Rm O (Rm O (Rm O (Ra O (Ra O (au Az O ?_))))))));clear H jJ Az;exact qY
  intro eY a H
  try have p28:=dF eY
  refine kP H (Kc jJ (SR fun _ Gd=>Rm O (Rm O (Rm O (Ra O (Ra O (au Gd O ?_)))))));clear H jJ Gd;exact Dw
 intro h8 a H
 try have p8:=dF h8
 refine kP H (SR fun _ Gf=>Rm O (Rc O (au Gf O (Cd O ?_ ?_)))) <;> clear H Gf
 ·intro oC a H
  try have uL:=dT oC
  refine kP H (SC (aZ K3 O (SQ fun _ rU=>SR fun _ Jd=>Rm O (Kz Jd (SB (SR fun _ LX=>Rc O (au LX O (Cd O ?_ ?_)))))))) <;> clear H K3 Jd LX
  ·intro h22 a H
   try have oI:=dT h22
   refine kP H (SC (aZ rU O (SR fun _ Ph=>Rm O (Rm O (Rm O (Ra O (Ra O (au Ph O ?_))))))));clear H rU Ph;exact qY
  intro h22 a H
  try have oI:=dF h22
  refine kP H (SR fun _ LY=>Rc O (au LY O (Cd O ?_ ?_))) <;> clear H LY
  ·intro dU a H
   try have lK:=dT dU
   refine kP H (SC (aZ rU O (SR fun _ Pj=>Rm O (Rm O (Rm O (Ra O (Ra O (au Pj O ?_))))))));clear H rU Pj;exact qY
  intro dU a H
  try have lK:=dF dU
  refine kP H (SR fun _ LZ=>Rc O (au LZ O (Cd O ?_ ?_))) <;> clear H LZ
  ·intro iY a H
   try have p26:=dT iY
   refine kP H (SC (aZ rU O (SR fun _ Ma=>Rm O (Rm O (Rm O (Ra O (Ra O (au Ma O ?_))))))));clear H rU Ma;exact qY
  intro iY a H
  try have p26:=dF iY
  refine kP H (SR fun _ Pk=>Rc O (au Pk O (Cd O ?_ ?_))) <;> clear H Pk
  ·intro eY a H
   try have p28:=dT eY
   refine kP H (SC (aZ rU O (SR fun _ Pm=>Rm O (Rm O (Rm O (Ra O (Ra O (au Pm O ?_))))))));clear H rU Pm;exact qY
  intro eY a H
  try have p28:=dF eY
  refine kP H (Kc rU (SR fun _ K50=>Rm O (Rm O (Rm O (Ra O (Ra O (au K50 O ?_)))))));clear H rU K50;exact Dw
 intro oC a H
 try have uL:=dF oC
 refine kP H (SR fun _ K51=>Rm O (Rc O (au K51 O (Cd O ?_ ?_)))) <;> clear H K51
 ·intro h18 a H
  try have qw:=dT h18
  refine kP H (SC (aZ K3 O (SQ fun _ Cb=>SR fun _ K53=>Rm O (Kz K53 (SB (SR fun _ K54=>Rc O (au K54 O (Cd O ?_ ?_)))))))) <;> clear H K3 K53 K54
  ·intro h22 a H
   try have oI:=dT h22
   refine kP H (SC (aZ Cb O (SR fun _ K55=>Rm O (Rm O (Rm O (Ra O (Ra O (au K55 O ?_))))))));clear H Cb K55;exact qY
  intro h22 a H
  try have oI:=dF h22
  refine kP H (SR fun _ K56=>Rc O (au K56 O (Cd O ?_ ?_))) <;> clear H K56
  ·intro dU a H
   try have lK:=dT dU
   refine kP H (SC (aZ Cb O (SR fun _ K57=>Rm O (Rm O (Rm O (Ra O (Ra O (au K57 O ?_))))))));clear H Cb K57;exact qY
  intro dU a H
  try have lK:=dF dU
  refine kP H (SR fun _ K58=>Rc O (au K58 O (Cd O ?_ ?_))) <;> clear H K58
  ·intro iY a H
   try have p26:=dT iY
   refine kP H (SC (aZ Cb O (SR fun _ K59=>Rm O (Rm O (Rm O (Ra O (Ra O (au K59 O ?_))))))));clear H Cb K59;exact qY
  intro iY a H
  try have p26:=dF iY
  refine kP H (SR fun _ K60=>Rc O (au K60 O (Cd O ?_ ?_))) <;> clear H K60
  ·intro eY a H
   try have p28:=dT eY
   refine kP H (SC (aZ Cb O (SR fun _ K61=>Rm O (Rm O (Rm O (Ra O (Ra O (au K61 O ?_))))))));clear H Cb K61;exact qY
  intro eY a H
  try have p28:=dF eY
  refine kP H (Kc Cb (SR fun _ K62=>Rm O (Rm O (Rm O (Ra O (Ra O (au K62 O ?_)))))));clear H Cb K62;exact Dw
 intro h18 a H
 try have qw:=dF h18
 refine kP H (SC (aZ K3 O (SQ fun _ Cc=>SR fun _ K64=>Rm O (Kz K64 (SB (SR fun _ K65=>Rc O (au K65 O (Cd O ?_ ?_)))))))) <;> clear H K3 K64 K65
 ·intro h22 a H
  try have oI:=dT h22
  refine kP H (SC (aZ Cc O (SR fun _ K66=>Rm O (Rm O (Rm O (Ra O (Ra O (au K66 O ?_))))))));clear H Cc K66;exact Dw
 intro h22 a H
 try have oI:=dF h22
 refine kP H (SR fun _ K67=>Rc O (au K67 O (Cd O ?_ ?_))) <;> clear H K67
 ·intro dU a H
  try have lK:=dT dU
  refine kP H (SC (aZ Cc O (SR fun _ K68=>Rm O (Rm O (Rm O (Ra O (Ra O (au K68 O ?_))))))));clear H Cc K68;exact Dw
 intro dU a H
 try have lK:=dF dU
 refine kP H (SR fun _ K69=>Rc O (au K69 O (Cd O ?_ ?_))) <;> clear H K69
 ·intro iY a H
  try have p26:=dT iY
  refine kP H (SC (aZ Cc O (SR fun _ K70=>Rm O (Rm O (Rm O (Ra O (Ra O (au K70 O ?_))))))));clear H Cc K70;exact Dw
 intro iY a H
 try have p26:=dF iY
 refine kP H (SR fun _ K71=>Rc O (au K71 O (Cd O ?_ ?_))) <;> clear H K71
 ·intro eY a H
  try have p28:=dT eY
  refine kP H (SC (aZ Cc O (SR fun _ K72=>Rm O (Rm O (Rm O (Ra O (Ra O (au K72 O ?_))))))));clear H Cc K72;exact Dw
 intro eY a H
 try have p28:=dF eY
 refine kP H (Kc Cc (SR fun _ K73=>Rm O (Rm O (Rm O (Ra O (Ra O (au K73 O ?_)))))));clear H Cc K73;intro a H;refine gu ?_;refine (jQ H results254 (.cons (fE H O) (.cons (fE H O) (.cons (fE H O) .nil))) ?_).1
 exact UJ
def gN (s:ByteArray) (i:Nat):Int:=if h:i < s.size then (s[i].toNat:Int) else 0
theorem nJ {s:ByteArray} {i:Nat} (h:i < s.size):gN s i=(s[i].toNat:Int):=by simp [gN,h]
def rY (s:ByteArray) (at_ n:Nat):(fuel k:Nat)->(low high p:Int)->Int × Nat × Bool
 | 0,k,_,_,p=>(p,k,true)
 | f+1,k,low,high,p =>
  if n<=k then (p,k,true)
  else if s.size<=at_+k∨gN s (at_+k) < low∨high < gN s (at_+k) then (0,k,false)
  else rY s at_ n f (k+1) 128 191 (vo .or .i64 (IntKind.i64.wrap (p*2 ^ 6)) (vo .and .i64 (gN s (at_+k)) 63))
def jY (s:ByteArray) (at_:Nat):Int × Nat × Bool :=
 let b:=gN s at_
 let t:=wW b
 if t.2.2=0 then (0,0,false) else if t.2.2=1 then (b,1,true)
 else rY s at_ t.2.2.toNat 4 1 t.1 t.2.1 (vo .and .i64 b ((127:Int).fdiv (2 ^ t.2.2.toNat)))
theorem Z4 (n:UInt8):IntKind.i64.wrap (n.toNat:Int)=(n.toNat:Int):=Ii V (by have:=n.toNat_lt;omega)
theorem abg {p:Prop} (h:p:=by
 exact H.rt ⟨by rw [hfin];first|rw [jZ]|rw [cu],O⟩):p:=h
theorem Vd {p:Prop} (h:p:=by
 intro a H;refine gu ?_
 have hfin:jY s i=(if n<=k then (p,k,true) else (0,k,false)):=by
  rw [hdec];have e:5 - k=(4 - k)+1:=by omega
  rw [e,rY]
  by_cases hk2:n<=k
  ·rw [aH hk2,aH hk2]
  rw [ay hk2,ay hk2,aH (by first|omega|(rw [nJ V];omega))]
 refine (jQ H results230 (.cons (fE H O) (.cons (fE H O) (.cons (fE H O) .nil))) ?_).1;exact abg):p:=h
set_option maxHeartbeats 1000000 in
theorem apu (G:GH) (w0:World) (hG:Hold G w0) (s:ByteArray) (i:Nat) (hi:i < s.size) (hs:s.size < 4611686018427387904) :
  Calls prog 230 #[.string s,.int .i64 i] w0 (bG w0 G fun v G'=>v=.tuple #[.int .i64 (jY s i).1,.int .i64 (jY s i).2.1,.bool (jY s i).2.2]∧G=G'):=by
 have hb:=nJ hi;obtain ⟨n,hn⟩:∃ n:Nat,(wW (gN s i)).2.2=(n:Int):=⟨(wW (gN s i)).2.2.toNat,by have:=ZR (gN s i);omega⟩
 have hn4:n<=4:=by have:=ZR (gN s i);omega
 refine eN [(0,_),(1,_)] func230 O ntmps230 O O hG ?_;intro a H;refine kP H (SR fun _ K1=>Ra O (Ra O (au K1 O (SR fun _ K2=>Rm O (Rm O ?_)))));clear H K1;intro a H;refine qy _ iI H wn O O O (by first|assumption|omega) rfl ?_;clear H;intro a H;refine kH H (Ra O ?_);clear H;intro a H;rw [<- hb] at H;refine K2 _ _ ?_;clear K2;refine kP H (SR fun _ K3=>Rm O ?_);clear H;intro a H;refine s_call arE H wn O (aB8 _ _ H.ro _) O ?_;clear H;rintro v16 _ a w ⟨rfl,rfl⟩ - H;refine kH H (Rm O ?_);clear H;intro a H;(iterate 3 refine ko H wn O O O ?_;clear H;intro a H);refine kH H (Ra O (Ra O (au K3 O (SQ fun _ K4=>SR fun _ K5=>Rm O (Kz K5 (SB (SR fun _ K6=>Rc O (au K6 O (Cd O ?_ ?_))))))))) <;> clear H K3 K5 K6
 ·intro h21 a H
  try have sK:=dT h21
  refine kP H (SR fun _ K7=>Ra O (Ra O (au K7 O ?_)));clear H K7;intro a H;refine gu ?_;skip;refine (jQ H results230 (.cons (fE H O) (.cons (fE H O) (.cons (fE H O) .nil))) ?_).1;exact H.rt ⟨by simp [jY,sK],O⟩
 intro h21 a H
 try have sK:=dF h21
 refine kP H (SR fun _ K8=>Rc O (au K8 O (Cd O ?_ ?_))) <;> clear H K8
 ·intro h23 a H
  try have qL:=dT h23
  refine kP H (SR fun _ K9=>Rm O ?_);clear H;intro a H;refine FD (gN s i) mQ OH H wn O (by rw [hb];exact Z4 _) O ?_;clear H;intro a H;refine kH H (Ra O (Ra O (au K9 O ?_)));clear H K9;intro a H;refine gu ?_;skip;refine (jQ H results230 (.cons (fE H O) (.cons (fE H O) (.cons (fE H O) .nil))) ?_).1;exact H.rt ⟨by simp [jY,sK,qL],O⟩
 intro h23 a H
 try have qL:=dF h23
 refine kP H (Kc K4 (SR fun _ aT=>Rm O ?_));clear H K4;intro a H;refine FD (gN s i) mQ OH H wn O (by rw [hb];exact Z4 _) O ?_;clear H;intro a H;refine kH H (Rm O ?_);clear H;intro a H;refine ZG n H wn O O (by rw [hn]) (by show n<=64;omega) rfl ?_;clear H;intro a H;refine SS O H wn O O O ?_;clear H;intro a H;refine kH H (au aT O (SQ fun _ bJ=>SR fun _ bO=>au bO O (SB ?_)));clear H aT bO;intro a H;skip;refine eO (ι:=Nat × Int × Int × Int) (Tc:=[(0,_),(1,_),(10,_)]) (Lc:=[]) (fun gh=>[(4,.int .i64 gh.2.2.2),(5,.int .i64 (gh.1:Int)),(8,.int .u8 gh.2.1),(9,.int .u8 gh.2.2.1)]) (fun gh=>[]) (fun gh=>G) (fun gh=>gh.1<=4∧jY s i=rY s i n (5 - gh.1) gh.1 gh.2.1 gh.2.2.1 gh.2.2.2) (fun gh=>5 - gh.1) ((1,_,_,_)) (by exact H.sub ⟨O,O,O,O,O,O,O,aB⟩) ?_ ?_
 ·refine ⟨V,?_⟩;simp only [jY,hn];rw [cu,cu];rfl
 clear H;rintro ⟨k,low,high,p⟩ a w hI H;dsimp only at hI H;obtain ⟨hk,hdec⟩:=hI;dsimp only [lca,bD] at H;refine kP H (SQ fun _ bU=>SR fun _ bZ=>Rm O (Rm O (Rc O (Kz bZ (Cd O ?_ ?_))))) <;> clear H bZ
 ·intro gP a H
  try have p34:=dT gP
  refine kP H (Kc bU (SQ fun _ dP=>SB (SQ fun _ dY=>SR fun _ dQ=>Rm O (Rm O (Rd O (Rm O (Rv iI O (Rc O (Rm O (Sp 43 O ?_ ?_)))))))))) <;> clear H bU
  ·intro h43 a H
   try have p43:=dT h43
   refine kH H (bg h43 O (aR h43 O (aR h43 O (Pt h43 O (Rm O (bg O O (aR O O (aR O O (Pt O O (Kz dQ (Ct O O (SR fun _ eX=>Rm O (Ra O (Ra O (au eX O ?_)))))))))))))));clear H dQ eX;exact Vd
  intro h43 a H
  try have p43:=dF h43
  refine kH H (YM h43 O (YM h43 O (YM h43 O ?_)));clear H;intro a H;refine IC _ H (wg H O O h43) O O O V V O ?_;clear H;intro a H;refine qy _ iI H (wg H O O h43) O O O (by first|assumption|omega) rfl ?_;clear H;intro a H;refine kH H (YM h43 O (YC h43 O (Pf h43 O (Rm O (Sp 52 O ?_ ?_))))) <;> clear H
  ·intro jP a H
   try have p52:=dT jP
   refine kH H (bg jP O (aR jP O (aR jP O (Pt jP O (Kz dQ (Ct O O (SR fun _ gM=>Rm O (Ra O (Ra O (au gM O ?_))))))))));clear H dQ gM;exact Vd
  intro jP a H
  try have p52:=dF jP
  refine kH H (YM jP O (YM jP O (YM jP O ?_)));clear H;intro a H;refine IC _ H (wg H O O jP) O O O V V O ?_;clear H;intro a H;refine qy _ iI H (wg H O O jP) O O O (by first|assumption|omega) rfl ?_;clear H;intro a H;refine kH H (YM jP O (YC jP O (Pf jP O (Kz dQ (Cd O ?_ ?_))))) <;> clear H dQ
  ·intro kZ a H
   try have p60:=dT kZ
   refine kP H (SR fun _ fI=>Rm O (Ra O (Ra O (au fI O ?_))));clear H fI;exact Vd
  intro kZ a H
  try have p60:=dF kZ
  refine kP H (Kc dY (SR fun _ gQ=>Rm O ?_));clear H dY;intro a H;refine aA4 _ H wn O O O Q1 O ?_;clear H;intro a H;refine kH H (Rm O (Rm O (Rm O (Rd O ?_))));clear H;intro a H;refine qy _ iI H wn O O O (by first|assumption|omega) rfl ?_;clear H;intro a H;refine FD (gN s (i+k)) mQ OH H wn O (by rw [nJ V];exact Z4 _) O ?_;clear H;intro a H;(iterate 2 refine SS O H wn O O O ?_;clear H;intro a H);refine kH H (au gQ O (SC (Ra O (aZ dP O (SC (Rm O (Rd O (Ra O ?_))))))));clear H gQ dP;intro a H;refine aF ?_;refine dS ((k+1,128,191,vo .or .i64 (IntKind.i64.wrap (p*2 ^ 6)) (vo .and .i64 (gN s (i+k)) 63))) (by exact H.sub ⟨O,O,O,O,O,O,O,aB⟩) ?_
  (try dsimp only);refine ⟨V,?_⟩
  have e:5 - k=(5 - (k+1))+1:=by omega
  rw [hdec,e,rY,cu,nJ V,cu]
 intro gP a H
 try have p34:=dF gP
 refine dX ?_;refine bJ _ _ ?_;clear bJ;refine kP H (SR fun _ jw=>Rm O (Rm O (Ra O (Ra O (au jw O ?_)))));clear H jw;intro a H;refine gu ?_
 have hfin:jY s i=(if n<=k then (p,k,true) else (0,k,false)):=by
  rw [hdec];have e:5 - k=(4 - k)+1:=by omega
  rw [e,rY]
  by_cases hk2:n<=k
  ·rw [aH hk2,aH hk2]
  rw [ay hk2,ay hk2,aH (by first|omega|(rw [nJ V];omega))]
 refine (jQ H results230 (.cons (fE H O) (.cons (fE H O) (.cons (fE H O) .nil))) ?_).1;exact abg
theorem aen (s:ByteArray) (at_ n:Nat):∀ (f k:Nat) (low high p:Int),n<=k+f->k<=n->k<=(rY s at_ n f k low high p).2.1∧(rY s at_ n f k low high p).2.1<=n∧((rY s at_ n f k low high p).2.2=true->at_+k<=s.size->at_+(rY s at_ n f k low high p).2.1<=s.size)
 | 0,k,low,high,p,h1,h2=>by simp only [rY];omega
 | f+1,k,low,high,p,h1,h2=>by
  unfold rY
  split
  ·simp only [];omega
  split
  ·simp only [];omega
  have ih:=aen s at_ n f (k+1) 128 191 (vo .or .i64 (IntKind.i64.wrap (p*2 ^ 6)) (vo .and .i64 (gN s (at_+k)) 63)) V V;refine ⟨by have:=ih.1;omega,ih.2.1,fun h3 h4=>ih.2.2 h3 V⟩
theorem Qo (s:ByteArray) (i:Nat) (hi:i < s.size):(jY s i).2.1<=4∧((jY s i).2.2=true->1<=(jY s i).2.1∧i+(jY s i).2.1<=s.size):=by
 have ht:=ZR (gN s i)
 unfold jY
 simp only []
 split
 ·simp
 split
 ·simp;omega
 have:=aen s i (wW (gN s i)).2.2.toNat 4 1 (wW (gN s i)).1 (wW (gN s i)).2.1 (vo .and .i64 (gN s i) ((127:Int).fdiv (2 ^ (wW (gN s i)).2.2.toNat))) V V;refine ⟨V,fun h=>⟨V,this.2.2 h V⟩⟩
def kX (s:ByteArray) (i:Nat):Int :=
 if h:i < s.size then (if h2:(jY s i).2.2=true then kX s (i+(jY s i).2.1) else i) else -1
 termination_by s.size - i
 decreasing_by have:=(Qo s i h).2 h2;omega
theorem ato (G:GH) (w0:World) (hG:Hold G w0) (s:ByteArray) (hs:s.size < 4611686018427387904) :
  Calls prog 181 #[.string s] w0 (bG w0 G fun v G'=>v=.int .i64 (kX s 0)∧G=G'):=by
 refine eN [(0,_)] func181 O ntmps181 O O hG ?_;intro a H;refine kP H (SR fun _ K1=>au K1 O (SQ fun _ K2=>SR fun _ K3=>au K3 O (SB ?_)));clear H K1 K3;intro a H;skip;refine eO (ι:=Nat) (Tc:=[(0,_)]) (Lc:=[]) (fun gh=>[(3,.int .i64 (gh:Int))]) (fun gh=>[]) (fun gh=>G) (fun gh=>gh<=s.size∧kX s 0=kX s gh) (fun gh=>s.size - gh) (0) (by exact H.sub ⟨O,O,aB⟩) ?_ ?_
 ·exact ⟨V,O⟩
 clear H;intro i a w hI H;obtain ⟨hk,hf⟩:=hI;dsimp only [lca,bD] at H;refine kP H (SQ fun _ K4=>SR fun _ K5=>Rm O (Rm O (Rv iI O (Rc O (Kz K5 (Cd O ?_ ?_)))))) <;> clear H K5
 ·intro h10 a H
  try have kN:=dT h10
  refine kP H (Kc K4 (SB (SR fun _ K6=>Rm O (Rm O ?_))));clear H K4;intro a H;refine s_call arb H wn O (apu _ _ H.ro s i V hs) O ?_;clear H;rintro v14 _ a w ⟨rfl,rfl⟩ - H;have hd:=Qo s i V;refine kH H (Rm O ?_);clear H;intro a H;(iterate 3 refine ko H wn O O O ?_;clear H;intro a H);refine kH H (Ra O (Ra O (au K6 O (SQ fun _ K7=>SR fun _ K8=>Rm O (Rn O (Kz K8 (Cd O ?_ ?_))))))) <;> clear H K6 K8
  ·intro h19 a H
   try have wS:=dT h19
   exact kP H (SR fun _ K9=>Rm O (au K9 O (LR results181 O fun H=>H.rt ⟨by rw [hf,kX,dif_pos V,dif_neg (by simpa using h19)],O⟩)))
  intro h19 a H
  try have wS:=dF h19
  refine kP H (Kc K7 (SC (Rm O (Rm O (Rd O (Ra O ?_))))));clear H K7;intro a H;refine aF ?_;refine aya ((i+(jY s i).2.1)) (by exact H.sub ⟨O,O,aB⟩) ?_ ?_
  ·have h1:(jY s i).2.2=true:=by simpa using h19
   have h2:=hd.2 h1;refine ⟨V,?_⟩;rw [hf,kX,dif_pos V,dif_pos h1]
  have h1:(jY s i).2.2=true:=by simpa using h19
  have h2:=hd.2 h1
  omega
 intro h10 a H
 try have kN:=dF h10
 refine dX ?_;refine K2 _ _ ?_;clear K2;exact kP H (SR fun _ aT=>au aT O (LR results181 O fun H=>H.rt ⟨by rw [hf,kX,dif_neg V],O⟩))
def ny (s:ByteArray):Bool:=decide (kX s 0 < 0)
theorem OJ (G:GH) (w0:World) (hG:Hold G w0) (s:ByteArray) (hs:s.size < 4611686018427387904) :
  Calls prog 101 #[.string s] w0 (bG w0 G fun v G'=>v=.bool (ny s)∧G=G'):=by
 refine eN [(0,_)] func101 O ntmps101 O O hG ?_;intro a H;refine kP H (SR fun _ K1=>au K1 O (SR fun _ K2=>Rm O ?_));clear H K1;intro a H;refine s_call aqu H wn O (ato _ _ H.ro s hs) O ?_;clear H;rintro v4 _ a w ⟨rfl,rfl⟩ - H;exact kH H (Rc O (au K2 O (LR results101 O fun H=>H.rt ⟨O,O⟩)))
def lF (s:ByteArray) (i:Nat):Nat :=
 if i < s.size then (if vo .and .u8 (gN s i) 192=128 then 0 else 1)+lF s (i+1) else 0
 termination_by s.size - i
theorem aec (s:ByteArray):∀ (n i:Nat),s.size - i=n->lF s i<=n
 | 0,i,h=>by rw [lF,cu];exact fD _
 | n+1,i,h=>by
  have ih:=aec s n (i+1) V;rw [lF,jZ]
  split <;> omega
def ru (s:ByteArray):Nat:=if ny s then lF s 0 else 0
def FT (s:ByteArray):Int:=if ny s then 0 else 12
theorem MQ (s:ByteArray):ru s<=s.size:=by unfold ru;have:=aec s s.size 0 V;split <;> omega
theorem VW (G:GH) (w0:World) (hG:Hold G w0) (s:ByteArray) (hs:s.size < 4611686018427387904) :
  Calls prog 108 #[.string s] w0 (bG w0 G fun v G'=>v=.tuple #[vi (ru s),vi (FT s)]∧G=G'):=by
 refine eN [(0,_)] func108 O ntmps108 O O hG ?_;intro a H;refine kP H (SR fun _ K1=>Ra O (au K1 O (SQ fun _ K2=>SR fun _ K3=>Rm O ?_)));clear H K1;intro a H;refine s_call MX H wn O (OJ _ _ H.ro s hs) O ?_;clear H;rintro v6 _ a w ⟨rfl,rfl⟩ - H;refine kH H (Rn O (Kz K3 (Cd O ?_ ?_))) <;> clear H K3
 ·intro h7 a H
  refine kP H (SR fun _ K4=>Ra O (au K4 O ?_));clear H K4;intro a H;refine gu ?_;refine (jQ H results108 (.cons (fE H O) (.cons (fE H O) .nil)) ?_).1;exact H.rt ⟨by simp [ru,FT,show ny s=false by simpa using h7],O⟩
 intro h7 a H
 try have p7:=dF h7
 refine kP H (Kc K2 (SQ fun _ K5=>SR fun _ K6=>Rm O (Rv iI O (Rm O (Kz K6 (SB ?_))))));clear H K2 K6;intro a H;skip;refine eO (ι:=Nat × Nat) (Tc:=[(0,_),(9,_)]) (Lc:=[]) (fun gh=>[(2,vi gh.2),(10,vi gh.1)]) (fun gh=>[]) (fun gh=>G) (fun gh=>gh.1<=s.size∧gh.2<=gh.1∧gh.2+lF s gh.1=ru s) (fun gh=>s.size - gh.1) ((0,0)) (by exact H.sub ⟨O,O,O,O,aB⟩) ?_ ?_
 ·exact ⟨V,V,by simp [ru,show ny s=true by simpa using h7]⟩
 clear H;rintro ⟨i,n⟩ a w hI H;dsimp only at hI H;obtain ⟨hk,hn,hf⟩:=hI;dsimp only [lca,bD] at H;refine kP H (SR fun _ K7=>Rc O (Kz K7 (SQ fun _ K8=>Cd O ?_ ?_))) <;> clear H K7
 ·intro h11 a H
  try have qp:=dT h11
  refine kP H (Kc K8 (SQ fun _ K9=>SB (SR fun _ aT=>Rm O (au aT O (SR fun _ bJ=>Rm O (Rm O ?_))))));clear H K8 aT;intro a H;refine qy _ iI H wn O O O (by first|assumption|omega) rfl ?_;clear H;intro a H;refine SS O H wn O O O ?_;clear H;intro a H;refine kH H (Rc O (Kz bJ (Cd O ?_ ?_))) <;> clear H bJ
  ·intro cK a H
   try have kI:=dT cK
   refine kP H (SC (Rm O (Rd O (aZ K9 O (SC (Rd O (Rm O ?_)))))));clear H K9;intro a H;refine aF ?_;refine dS ((i+1,n+1)) (by exact H.sub ⟨O,O,O,O,aB⟩) ?_
   (try dsimp only);rw [<- nJ V] at kI;rw [lF,jZ,ay kI] at hf;exact ⟨V,V,V⟩
  intro cK a H
  try have kI:=dF cK
  refine kP H (Kc K9 (SC (Rd O (Rm O ?_))));clear H K9;intro a H;refine aF ?_;refine dS ((i+1,n)) (by exact H.sub ⟨O,O,O,O,aB⟩) ?_
  (try dsimp only);rw [<- nJ V,nV] at kI;rw [lF,jZ,aH kI] at hf;exact ⟨V,V,V⟩
 intro h11 a H
 try have qp:=dF h11
 refine dX ?_;refine K5 _ _ ?_;clear K5;refine kP H (SR fun _ bO=>Rm O (Ra O (au bO O ?_)));clear H bO;intro a H;refine gu ?_;refine (jQ H results108 (.cons (fE H O) (.cons (fE H O) .nil)) ?_).1;exact H.rt ⟨by rw [lF,cu,wB] at hf;rw [hf];simp [FT,show ny s=true by simpa using h7],O⟩
theorem OG:prog.underlying 322=some (.slice 275):=by kernel_rfl
theorem vY:Ty prog 275 6 56 [.int .i64 0,.int .i64 0,.int .i64 0,.int .i64 0,.int .i64 0,.string ⟨#[]⟩] true:=⟨Z,Z⟩
theorem akS:qW prog 275 [(0,1),(1,1),(2,1),(3,1),(4,1),(5,1)] [.int .i64 0,.int .i64 0,.int .i64 0,.int .i64 0,.int .i64 0,.string ⟨#[]⟩]:=⟨Z,Z⟩
theorem Ws:aW 238:=aY func238 O
structure jT where
 num:Int
 J3:Int
 low:Int
 high:Int
 std:Int
 name:ByteArray
def jT.dat (x:jT):List Dat:=[li x.num,li x.J3,li x.low,li x.high,li x.std,.lf (.string x.name)]
def jT.cells (x:jT):List ah:=[vi x.num,vi x.J3,vi x.low,vi x.high,vi x.std,.string x.name]
def jf.cells (x:jf):List ah:=[vi x.key,vi x.value]
theorem axG (G:GH) (x:jT):aX G x.dat x.cells:=by
 simp only [jT.dat,jT.cells,aX]
 exact ⟨_,_,O,by simp [av,Value.oneCell'],_,_,O,by simp [av,Value.oneCell'],_,_,O,by simp [av,Value.oneCell'],_,_,O,by simp [av,Value.oneCell'],_,_,O,by simp [av,Value.oneCell'],_,_,O,by simp [av,Value.oneCell'],O⟩
theorem axF {G:GH} {x:jT} {cs:List ah} (h:aX G x.dat cs):cs=x.cells:=by
 simp only [jT.dat,aX,av] at h
 obtain ⟨v1,_,rfl,⟨rfl,-⟩,v2,_,rfl,⟨rfl,-⟩,v3,_,rfl,⟨rfl,-⟩,v4,_,rfl,⟨rfl,-⟩,v5,_,rfl,⟨rfl,-⟩,v6,_,rfl,⟨rfl,-⟩,rfl⟩:=h
 rfl
theorem Zg {G:GH} {x:jf} {cs:List ah} (h:aX G x.dat cs):cs=x.cells:=by
 simp only [jf.dat,aX,av] at h
 obtain ⟨v1,_,rfl,⟨rfl,-⟩,v2,_,rfl,⟨rfl,-⟩,rfl⟩:=h
 rfl
theorem aiz (G:GH):∀ (B A:List jT),bT G 6 (A.map jT.dat) (A.map jT.cells).flatten->bT G 6 ((A++B).map jT.dat) ((A++B).map jT.cells).flatten
 | [],A,h=>by rw [jV];exact h
 | x :: B,A,h=>by
  have h2:=h.snoc (axG G x) O;have h3:=aiz G B (A++[x]) (by simpa using h2)
  simpa using h3
theorem axH (G:GH) (A:List jT):bT G 6 (A.map jT.dat) (A.map jT.cells).flatten:=aiz G A [] bT.nil
theorem Jq {p:Prop} (h:p:=by
 exact ⟨b,o,h1,h3⟩):p:=h
theorem Yv {G:GH} {l:List jT} {A:Option Addr} {n c k:Nat} (hv:av G (.sl 6 (l.map jT.dat)) (.slice A n c)) (hk:k < l.length):∃ b o,A=some ⟨b,o,none⟩∧(∀ j u,[vi l[k].num,vi l[k].J3,vi l[k].low,vi l[k].high,vi l[k].std,.string l[k].name][j]?=some u->aI G b (o+k*6+j)=some u):=by
 obtain ⟨A',c',he,_,_,hg⟩:=hv.slice
 injection he with e1 e2 e3
 subst e1;obtain ⟨b,o,cs,h1,h2,h3,h4⟩:=hg k l[k].dat (by simp [hk]);obtain rfl:=axF h4;exact Jq
theorem Sz {G:GH} {l:List jf} {A:Option Addr} {n c k:Nat} (hv:av G (.sl 2 (l.map jf.dat)) (.slice A n c)) (hk:k < l.length):∃ b o,A=some ⟨b,o,none⟩∧(∀ j u,[vi l[k].key,vi l[k].value][j]?=some u->aI G b (o+k*2+j)=some u):=by
 obtain ⟨A',c',he,_,_,hg⟩:=hv.slice
 injection he with e1 e2 e3
 subst e1;obtain ⟨b,o,cs,h1,h2,h3,h4⟩:=hg k l[k].dat (by simp [hk]);obtain rfl:=Zg h4;exact Jq
def Il:List jT:=[⟨1,1,0,1073741824,0,⟨#[99,104,97,114,97,99,116,101,114,45,115,116,121,108,101]⟩⟩,⟨2,1,0,1,0,⟨#[98,111,108,100]⟩⟩,⟨3,1,0,1,0,⟨#[105,116,97,108,105,99]⟩⟩,⟨4,1,0,3,0,⟨#[117,110,100,101,114,108,105,110,101]⟩⟩,⟨5,1,2,1638,22,⟨#[115,105,122,101]⟩⟩,⟨6,1,0,16777215,0,⟨#[99,111,108,111,114]⟩⟩,⟨7,1,0,63,0,⟨#[102,111,110,116]⟩⟩,⟨8,1,0,255,0,⟨#[108,97,110,103,117,97,103,101]⟩⟩,⟨9,1,-400,400,0,⟨#[114,97,105,115,101]⟩⟩,⟨10,1,0,1,0,⟨#[104,105,100,100,101,110]⟩⟩,⟨20,2,0,1073741824,0,⟨#[112,97,114,97,103,114,97,112,104,45,115,116,121,108,101]⟩⟩,⟨21,2,0,3,0,⟨#[97,108,105,103,110]⟩⟩,⟨22,2,-31680,31680,0,⟨#[108,101,102,116]⟩⟩,⟨23,2,-31680,31680,0,⟨#[114,105,103,104,116]⟩⟩,⟨24,2,-31680,31680,0,⟨#[102,105,114,115,116]⟩⟩,⟨25,2,0,31680,0,⟨#[98,101,102,111,114,101]⟩⟩,⟨26,2,0,31680,0,⟨#[97,102,116,101,114]⟩⟩,⟨27,2,0,31680,0,⟨#[108,101,97,100,105,110,103]⟩⟩,⟨28,2,0,1,0,⟨#[107,101,101,112,45,110,101,120,116]⟩⟩,⟨29,2,0,1,0,⟨#[107,101,101,112,45,108,105,110,101,115]⟩⟩,⟨30,2,0,1,1,⟨#[119,105,100,111,119]⟩⟩,⟨31,2,0,1,0,⟨#[112,97,103,101,45,98,101,102,111,114,101]⟩⟩,⟨32,2,0,9,0,⟨#[111,117,116,108,105,110,101]⟩⟩,⟨33,2,0,1073741824,0,⟨#[108,105,115,116]⟩⟩,⟨34,2,1,9,1,⟨#[108,101,118,101,108]⟩⟩,⟨35,2,0,32767,0,⟨#[114,101,115,116,97,114,116]⟩⟩,⟨36,2,1,31680,720,⟨#[116,97,98,45,115,116,111,112]⟩⟩,⟨37,2,0,1,0,⟨#[104,121,112,104,101,110,97,116,101]⟩⟩,⟨40,3,720,31680,12240,⟨#[112,97,103,101,45,119,105,100,116,104]⟩⟩,⟨41,3,720,31680,15840,⟨#[112,97,103,101,45,104,101,105,103,104,116]⟩⟩,⟨42,3,0,31680,1440,⟨#[116,111,112]⟩⟩,⟨43,3,0,31680,1440,⟨#[98,111,116,116,111,109]⟩⟩,⟨44,3,0,31680,1440,⟨#[105,110,110,101,114]⟩⟩,⟨45,3,0,31680,1440,⟨#[111,117,116,101,114]⟩⟩,⟨46,3,0,32767,0,⟨#[102,105,114,115,116,45,112,97,103,101]⟩⟩,⟨47,3,1,6,1,⟨#[112,97,103,101,45,102,111,114,109,97,116]⟩⟩,⟨50,4,0,1,0,⟨#[104,101,97,100,101,114]⟩⟩,⟨51,4,0,1,0,⟨#[99,97,110,116,45,115,112,108,105,116]⟩⟩,⟨52,4,0,31680,0,⟨#[114,111,119,45,104,101,105,103,104,116]⟩⟩,⟨60,5,1,32,1,⟨#[99,111,108,117,109,110,45,115,112,97,110]⟩⟩,⟨61,5,0,2,0,⟨#[118,101,114,116,105,99,97,108,45,109,101,114,103,101]⟩⟩,⟨62,5,0,31680,0,⟨#[99,101,108,108,45,119,105,100,116,104]⟩⟩,⟨63,5,0,16777215,16777215,⟨#[115,104,97,100,101]⟩⟩,⟨70,6,0,31680,0,⟨#[116,97,98,108,101,45,119,105,100,116,104]⟩⟩,⟨71,6,0,2,0,⟨#[116,97,98,108,101,45,97,108,105,103,110]⟩⟩]
set_option maxRecDepth 20000 in
theorem axI (G:GH) (w0:World) (hG:Hold G w0):Calls prog 231 #[] w0 (bG w0 G fun u G'=>av G' (.sl 6 (Il.map jT.dat)) u):=by
 refine eN [] func231 O ntmps231 O O hG ?_;intro a H;refine kP H (SR fun _ K1=>au K1 O (SR fun _ K2=>?_));clear H K1;intro a H;(iterate 45 refine kg akS [_,_,_,_,_,_] H wn O O O O ?_;clear H;intro a H);refine aAQ OG vY (Il.map jT.cells) H wn O O O O O O O ?_;clear H;intro b46 a w aDv H;refine kH H (au K2 O ?_);clear H K2;intro a H;refine lr H results231 O ?_;obtain ⟨Gz,hmz,hbz,H⟩:=H.fJ;exact H.rt (av.vU (n:=45) (cap:=45) hbz O (fD _) (show 45<=maxLen by decide) (lU (fD _)) (axH _ _))
theorem Yq (G:GH) (w0:World) (hG:Hold G w0) (x:Int):Calls prog 238 #[vi x] w0 (bG w0 G fun u G'=>u=.bool false∧G=G'):=by
 refine eN [(0,_)] func238 O ntmps238 O O hG ?_;intro a H;exact kP H (SR fun _ K1=>au K1 O (SR fun _ K2=>Rm O (Rm O (Rc O (au K2 O (LR results238 O fun H=>H.rt ⟨by simp,O⟩))))))
theorem VU {x y z:Int} (h:(x < y∧z=-1)∨(y < x∧z=1)∨(x=y∧z=0)):z=DC x y:=by
 unfold DC;split
 ·omega
 split <;> omega
theorem apf (G:GH) (w0:World) (hG:Hold G w0) (x y:Int):Calls prog 234 #[vi x,vi y] w0 (bG w0 G fun u G'=>u=vi (DC x y)):=by
 refine eN [(0,_),(1,_)] func234 O ntmps234 O O hG ?_;intro a H;refine kP H (SR fun _ K1=>au K1 O (SR fun _ K2=>Rm O ?_));clear H K1;intro a H;refine s_call Ws H wn O (Yq _ _ H.ro x) O ?_;clear H;rintro v8 G8 a w ⟨rfl,-⟩ Cv H;refine kH H (au K2 O (SR fun _ K3=>Rm O ?_));clear H K2;intro a H;refine s_call Ws H wn O (Yq _ _ H.ro y) O ?_;clear H;rintro v10 tZ a w ⟨rfl,-⟩ tH H;refine kH H (au K3 O (SQ fun _ K4=>SR fun _ K5=>Rm O (Kz K5 (Cd O ?_ ?_)))) <;> clear H K3 K5
 ·intro h11 a H
  cases h11
 intro h11 a H
 try have qp:=dF h11
 refine kP H (Kc K4 (SQ fun _ K6=>SR fun _ K7=>Rm O (Kz K7 (Cd O ?_ ?_)))) <;> clear H K4 K7
 ·intro fT a H
  cases fT
 intro fT a H
 try have pz:=dF fT
 refine kP H (Kc K6 (SQ fun _ K8=>SR fun _ K9=>Rm O (Rm O (Rc O (Kz K9 (Cd O ?_ ?_)))))) <;> clear H K6 K9
 ·intro h16 a H
  try have p16:=dT h16
  exact kP H (SR fun _ aT=>au aT O (LR results234 O fun H=>H.rt (dh vi (VU V))))
 intro h16 a H
 try have p16:=dF h16
 refine kP H (Kc K8 (SQ fun _ bJ=>SR fun _ bO=>Rm O (Rm O (Rc O (Kz bO (Cd O ?_ ?_)))))) <;> clear H K8 bO
 ·intro h19 a H
  try have wS:=dT h19
  exact kP H (SR fun _ bU=>au bU O (LR results234 O fun H=>H.rt (dh vi (VU V))))
 intro h19 a H
 try have wS:=dF h19
 exact kP H (Kc bJ (SR fun _ bZ=>au bZ O (LR results234 O fun H=>H.rt (dh vi (VU V)))))
theorem hmx:prog.follows .mixedOrders=true:=by kernel_rfl
theorem iL:dz prog 128 0 0:=⟨Z⟩
theorem aD:Ty prog 3 1 8 [.int .i64 0] false:=⟨Z,Z⟩
theorem rC:dz prog 128 3 3:=⟨Z⟩
theorem gV:Ty prog 9 1 16 [.string ⟨#[]⟩] false:=⟨Z,Z⟩
theorem Wd:aW 108:=aY func108 O
theorem eH:prog.underlying 22=some (.slice 128):=by kernel_rfl
theorem cO:Ty prog 128 11 176 [.int .i64 0,.int .i64 0,.int .i64 0,.string ⟨#[]⟩,.slice none 0 0,.int .i64 0,.int .i64 0,.slice none 0 0,.slice none 0 0,.slice none 0 0,.slice none 0 0] true:=⟨Z,Z⟩
theorem Wj:aW 160:=aY func160 O
theorem rO:prog.underlying 23=some (.slice 197):=by kernel_rfl
theorem qd:Ty prog 197 2 16 [.int .i64 0,.int .i64 0] true:=⟨Z,Z⟩
theorem rP:prog.underlying 24=some (.slice 200):=by kernel_rfl
theorem uP:Ty prog 200 2 16 [.int .i64 0,.int .i64 0] true:=⟨Z,Z⟩
theorem vZ:prog.underlying 25=some (.slice 202):=by kernel_rfl
theorem uQ:Ty prog 202 4 32 [.int .i64 0,.int .i64 0,.int .i64 0,.bool false] true:=⟨Z,Z⟩
theorem nT:Ty prog 29 5 88 [.slice none 0 0,.int .i64 0,.int .i64 0,.slice none 0 0,.slice none 0 0] true:=⟨Z,Z⟩
theorem GZ:dz prog 29 0 0:=⟨Z⟩
theorem BS:Ty prog 23 1 24 [.slice none 0 0] false:=⟨Z,Z⟩
theorem aeW:aW 212:=aY func212 O
theorem wI:dz prog 29 1 1:=⟨Z⟩
theorem yR:dz prog 27 2 2:=⟨Z⟩
theorem zC:Ty prog 24 1 24 [.slice none 0 0] false:=⟨Z,Z⟩
theorem aqQ:aW 213:=aY func213 O
theorem EU:dz prog 27 3 3:=⟨Z⟩
theorem FL:Ty prog 25 1 24 [.slice none 0 0] false:=⟨Z,Z⟩
theorem aqR:aW 214:=aY func214 O
theorem jS:prog.underlying 60=some (.slice 131):=by kernel_rfl
theorem ig:Ty prog 131 6 112 [.slice none 0 0,.int .i64 0,.int .i64 0,.slice none 0 0,.slice none 0 0,.slice none 0 0] true:=⟨Z,Z⟩
theorem kQ:prog.underlying 61=some (.slice 134):=by kernel_rfl
theorem iN:Ty prog 134 7 120 [.int .i64 0,.slice none 0 0,.int .i64 0,.int .i64 0,.slice none 0 0,.slice none 0 0,.slice none 0 0] true:=⟨Z,Z⟩
theorem JM:dz prog 134 0 0:=⟨Z⟩
theorem Na:dz prog 134 1 1:=⟨Z⟩
theorem MZ:aW 156:=aY func156 O
theorem DK:dz prog 134 2 6:=⟨Z⟩
theorem fC:Ty prog 22 1 24 [.slice none 0 0] false:=⟨Z,Z⟩
theorem Qv:aW 71:=aY func71 O
theorem akR:qW prog 134 [(0,1),(1,5),(6,1)] [.int .i64 0,.slice none 0 0,.int .i64 0,.int .i64 0,.slice none 0 0,.slice none 0 0,.slice none 0 0]:=⟨Z,Z⟩
theorem M9:dz prog 131 0 0:=⟨Z⟩
theorem uy:dz prog 131 1 5:=⟨Z⟩
theorem rM:Ty prog 61 1 24 [.slice none 0 0] false:=⟨Z,Z⟩
theorem aeX:aW 215:=aY func215 O
theorem akQ:qW prog 131 [(0,5),(5,1)] [.slice none 0 0,.int .i64 0,.int .i64 0,.slice none 0 0,.slice none 0 0,.slice none 0 0]:=⟨Z,Z⟩
theorem uq:dz prog 128 4 4:=⟨Z⟩
theorem uw:dz prog 128 5 9:=⟨Z⟩
theorem pR:dz prog 128 6 10:=⟨Z⟩
theorem oq:Ty prog 60 1 24 [.slice none 0 0] false:=⟨Z,Z⟩
theorem Wi:aW 157:=aY func157 O
theorem aeO:aW 154:=aY func154 O
theorem aqS:aW 216:=aY func216 O
theorem aqj:aW 158:=aY func158 O
theorem aqi:aW 155:=aY func155 O
def eG (x:ak):Nat:=if x.kind=1 then ru x.text else 1
def sN (x:ak):Int:=if x.kind=1 then FT x.text else 0
theorem Z9 (G:GH) (w0:World) (hG:Hold G w0) (x:ak) (i2 i3:Int) (p i5 i6 d l f r:ah) (hs:x.text.size < 4611686018427387904) :
  Calls prog 160 #[.agg #[vi x.kind,vi i2,vi i3,.string x.text,p,i5,i6,d,l,f,r]] w0 (bG w0 G fun v G'=>v=.tuple #[vi (eG x),vi (sN x)]∧G=G'):=by
 refine eN [(0,_)] func160 O ntmps160 O O hG ?_;intro a H;refine dH (fun _ K1=>?_);refine eB (cs:=[_,_,_,_,_,_,_,_,_,_,_]) H wn O O O ?_;clear H;intro b1 a w hb1 H;refine kH H (Ra O (au K1 O (SQ fun _ K2=>SR fun _ K3=>aU iL aD 0 O O (Rc O (Kz K3 (Cd O ?_ ?_)))))) <;> clear H K1 K3
 ·intro h6 a H
  try have p6:=dT h6
  refine kP H (SR fun _ K4=>Ra O (au K4 O ?_));clear H K4;intro a H;refine gu ?_;refine (jQ H results160 (.cons (fE H O) (.cons (fE H O) .nil)) ?_).1;exact H.rt ⟨by simp only [eG,sN,ay p6];rfl,rfl⟩
 intro h6 a H
 try have p6:=dF h6
 refine kP H (Kc K2 (SR fun _ K5=>aU rC gV 0 O O ?_));clear H K2;intro a H;refine s_call Wd H wn O (VW _ _ H.ro _ hs) O ?_;clear H;rintro v9 _ a w ⟨rfl,rfl⟩ - H;(iterate 2 refine ko H wn O O O ?_;clear H;intro a H);refine kH H (Ra O (au K5 O ?_));clear H K5;intro a H;refine gu ?_;refine (jQ H results160 (.cons (fE H O) (.cons (fE H O) .nil)) ?_).1;exact H.rt ⟨by rw [nV] at p6;simp only [eG,sN,aH p6],O⟩
def xE (l:List ak):Bool:=l.all fun x=>decide (sN x=0)
def fU:List ak->Nat
 | []=>0
 | x :: l=>eG x+fU l
def sI (l:List ak):Int:=if xE l then fU l else 0
def zk (l:List ak):Int:=if xE l then 0 else 12
def mo:List ak->Nat
 | []=>0
 | x :: l=>x.text.size+1+mo l
theorem alb:∀ l:List ak,fU l<=mo l
 | []=>fD _
 | x :: l=>by
  have:=alb l;have h2:=MQ x.text
  simp only [fU,mo,eG];split <;> omega
theorem ale {x:ak}:∀ {l:List ak},x∈l->x.text.size < mo l
 | [],h=>by cases h
 | y :: l,h=>by
  simp only [mo]
  rcases iD.1 h with rfl|h
  ·omega
  have:=ale h;omega
theorem aB5 (l m:List ak):fU (l++m)=fU l+fU m:=by
 induction l with
 | nil=>simp [fU]
 | cons x l ih=>simp [fU,ih];omega
theorem aB6 {l:List ak} {k:Nat} (h:k < l.length):fU (l.take (k+1))=fU (l.take k)+eG l[k]:=by
 rw [jk h,aB5];simp [fU]
theorem IJ (l m:List ak):mo (l++m)=mo l+mo m:=by
 induction l with
 | nil=>simp [mo]
 | cons x l ih=>simp [mo,ih];omega
theorem ZU (l:List ak) (k:Nat):mo (l.take k)<=mo l:=by
 have:=IJ (l.take k) (l.drop k);rw [List.take_append_drop] at this;omega
theorem zT {G:GH} {l:List ak} {A:Option Addr} {k:Nat} (hk:k < l.length) (hg:∀ k r,(l.map ak.dat)[k]?=some r->∃ b o cs,A=some ⟨b,o,none⟩∧cs.length=11∧(∀ j u,cs[j]?=some u->aI G b (o+k*11+j)=some u)∧aX G r cs) :
  ∃ b o pA pn pc dA dn dc yA yn yc fA fn fc rA rn rc,A=some ⟨b,o,none⟩∧(∀ j u,[vi l[k].kind,vi l[k].code,vi l[k].id,.string l[k].text,.slice pA pn pc,vi l[k].head.marks.ins,vi l[k].head.marks.move,.slice dA dn dc,.slice yA yn yc,.slice fA fn fc,.slice rA rn rc][j]?=some u->aI G b (o+k*11+j)=some u) ∧
   jI G l[k].head (.slice pA pn pc) (.slice dA dn dc) (.slice yA yn yc)∧av G (.sl 11 (l[k].flow.map ak.dat)) (.slice fA fn fc)∧av G (.sl 6 (l[k].rows.map aM.dat)) (.slice rA rn rc):=by
 obtain ⟨b,o,cs,h1,h2,h3,h4⟩:=hg k l[k].dat (by simp [hk]);obtain ⟨pA,pn,pc,dA,dn,dc,yA,yn,yc,fA,fn,fc,rA,rn,rc,rfl,h5,h6,h7⟩:=h4.item;exact ⟨b,o,pA,pn,pc,dA,dn,dc,yA,yn,yc,fA,fn,fc,rA,rn,rc,h1,h3,h5,h6,h7⟩
theorem apz {l:List ak} {k:Nat} (h:k < l.length):xE (l.take (k+1))=(xE (l.take k) && decide (sN l[k]=0)):=by
 unfold xE
 rw [jk h,List.all_append];simp
theorem apy {l:List ak} {k:Nat} (h:k < l.length) (hn:¬ sN l[k]=0):xE l=false:=by
 unfold xE
 rw [List.all_eq_false];exact ⟨l[k],jl h,by simpa using hn⟩
theorem Od:∀ l:List ak,l.length<=mo l
 | []=>fD _
 | x :: l=>by have:=Od l;simp only [lD,mo];omega
theorem Tg:∀ l:List ak,mo l<=aP l
 | []=>fD _
 | x :: l=>by
  have:=Tg l;have h2:=pG x
  simp only [mo,aP,eP,eZ] at *;omega
theorem aiE (G:GH) (w0:World) (hG:Hold G w0) (l:List ak) (v:ah) (hv:av G (.sl 11 (l.map ak.dat)) v) (hz:aP l<=4294967296) :
  Calls prog 81 #[v] w0 (bG w0 G fun v G'=>v=.tuple #[vi (sI l),vi (zk l)]∧G=G'):=by
 obtain ⟨A,c,rfl,hc1,hc2,hg⟩:=hv.slice;rw [bR] at *;have hll:=Od l;have htz:=Tg l;refine eN [(0,_)] func81 O ntmps81 O O hG ?_;intro a H;refine kP H (SR fun _ K1=>Ra O (au K1 O (SR fun _ K2=>au K2 O (SQ fun _ K3=>SR fun _ K4=>Rm O (Rl eH O (Rm O (Kz K4 (SB ?_))))))));clear H K1 K2 K4;intro a H;skip;refine eO (ι:=Nat) (Tc:=[(9,_),(10,_)]) (Lc:=[]) (fun gh=>[(4,vi (fU (l.take gh))),(11,vi gh)]) (fun gh=>[]) (fun gh=>G) (fun gh=>gh<=l.length∧xE (l.take gh)=true) (fun gh=>l.length - gh) (0) (by exact H.sub ⟨O,O,O,O,aB⟩) ?_ ?_
 ·exact ⟨V,by simp [xE]⟩
 clear H;intro k a w hI H;obtain ⟨hk,hd⟩:=hI;dsimp only [lca,bD] at H;refine kP H (SR fun _ K5=>Rc O (Kz K5 (SQ fun _ K6=>Cd O ?_ ?_))) <;> clear H K5
 ·intro h12 a H
  try have pq:=dT h12
  have hk2:k < l.length:=by omega
  obtain ⟨b,o,pA,pn,pc,dA,dn,dc,yA,yn,yc,fA,fn,fc,rA,rn,rc,rfl,hrow,-⟩:=zT hk2 hg;have hsm:=aB6 hk2;have hle:=alb (l.take (k+1));have hle2:=ZU l (k+1);refine kP H (Kc K6 (SQ fun _ K7=>SB (SR fun _ K8=>Ri eH cO O O ?_)));clear H K6;intro a H;refine bq cO (cs:=[_,_,_,_,_,_,_,_,_,_,_]) H wn O O (fun j v hj=>H.hp.aI (hrow j v hj)) O ?_;clear H;intro a H;refine dR cO H wn O ?_;clear H;intro b6 a w hb6 H;refine bM cO 0 (vs:=[_,_,_,_,_,_,_,_,_,_,_]) H wn O ?_;clear H;intro w H;refine K8 _ _ ?_;clear K8;refine dH (fun _ K9=>?_);refine bq cO (cs:=[_,_,_,_,_,_,_,_,_,_,_]) H wn O O (H.hp.dD 0 O O) O ?_;clear H;intro a H;refine s_call Wj H wn O (Z9 _ _ H.ro _ _ _ _ _ _ _ _ _ _ (by have:=ale (jl hk2);omega)) rfl ?_;clear H;rintro v17 _ a w ⟨rfl,rfl⟩ - H;refine kH H (Rm O ?_);clear H;intro a H;(iterate 2 refine ko H wn O O O ?_;clear H;intro a H);refine kH H (Ra O (au K9 O (SQ fun _ aT=>SR fun _ bJ=>Rm O (Rc O (Kz bJ (Cd O ?_ ?_)))))) <;> clear H K9 bJ
  ·intro h21 a H
   try have sK:=dT h21
   refine kP H (SR fun _ bO=>Ra O (au bO O ?_));clear H bO;intro a H;refine gu ?_;refine (jQ H results81 (.cons (fE H O) (.cons (fE H O) .nil)) ?_).1;exact H.rt ⟨by simp [sI,zk,apy hk2 sK],O⟩
  intro h21 a H
  try have sK:=dF h21
  refine kP H (Kc aT (SC (Rm O (Rm O (Rd O ?_)))));clear H aT;intro a H;rw [<- Int.natCast_add,<- hsm] at H;refine kH H (aZ K7 O (SC (Rd O (Rm O ?_))));clear H K7;intro a H;refine aF ?_;refine dS ((k+1)) (by exact (H.dV (Pl:=[_]) (dL:=[]) [] Q1 O).sub ⟨O,O,O,O,aB⟩) ?_
  exact ⟨V,by rw [apz hk2,hd];simpa using sK⟩
 intro h12 a H
 try have pq:=dF h12
 refine dX ?_;refine K3 _ _ ?_;clear K3;refine kP H (SR fun _ bU=>Rm O (Ra O (au bU O ?_)));clear H bU;intro a H;refine gu ?_;refine (jQ H results81 (.cons (fE H O) (.cons (fE H O) .nil)) ?_).1;exact H.rt ⟨by rw [show l.take k=l from lU V] at hd |-;simp [sI,zk,hd],O⟩
theorem adY (G:GH) (w0:World) (hG:Hold G w0) (rows:List (List Dat)) (A:Option Addr) (n c:Nat) (hv:av G (.sl 2 rows) (.slice A n c)) (hz:rows.length<=4294967296) :
  Calls prog 212 #[.slice A n c] w0 (bG w0 G fun v G'=>av G' (.sl 2 rows) v):=by
 obtain ⟨hn,hc1,hc2,hnil,hx⟩:=hv.cells;refine eN [(0,_)] func212 O ntmps212 O O hG ?_;intro a H;refine kP H (SR fun _ K1=>au K1 O (SQ fun _ K2=>SR fun _ K3=>Rm O ?_));clear H K1;intro a H;refine CV rO H wn O O ?_;clear H;intro a H;refine K3 _ _ ?_;clear K3;refine jX H O ?_ ?_
 ·intro h4
  exact kP H (SR fun _ K4=>au K4 O (LR results212 O fun H=>H.rt (by rw [hnil (by simpa using h4)];exact av.og O (by simp [maxLen]))))
 intro h4
 try have p4:=dF h4
 refine gT ?_;refine K2 _ _ ?_;clear K2;refine bP (fun _ K5=>?_)
 have hA:¬ A=none:=by intro e;rw [e] at h4;cases h4
 refine mX ?_;refine CU rO qd H wn O ?_;clear H;intro b5 a w hb5 H;refine kH H (Rm O ?_);clear H;intro a H
 by_cases hr0:rows=[]
 ·have hn0:n=0:=by rw [hn,hr0];rfl
  subst hn0;refine BM rO qd H wn O O (fD _) O ?_;clear H;intro a H;exact kH H (aZ K5 O (LR results212 O fun H=>H.rt (by rw [hr0];exact av.og O (by simp [maxLen]))))
 obtain ⟨b,o,xs,rfl,hxl,hxc,hx1,fZ⟩:=hx hr0;refine mh (Li:=[]) (Lo:=[_]) (news:=xs) rO qd O O H wn O O bV.empty hxl (fun j u hj=>H.hp.aI (hxc j u hj)) hx1 V V O ?_;clear H;intro v7 Lo a w hrow H;obtain ⟨G',hm,hrep,H⟩:=H.qF hrow (rows:=rows) V (by simpa using fZ)
 try clear hG
 obtain ⟨G2,hG2⟩:∃ g,g=G':=⟨_,O⟩;subst hG2;exact kH H (aZ K5 O (LR results212 O fun H=>H.rt hrep))
theorem aoM (G:GH) (w0:World) (hG:Hold G w0) (rows:List (List Dat)) (A:Option Addr) (n c:Nat) (hv:av G (.sl 2 rows) (.slice A n c)) (hz:rows.length<=4294967296) :
  Calls prog 213 #[.slice A n c] w0 (bG w0 G fun v G'=>av G' (.sl 2 rows) v):=by
 obtain ⟨hn,hc1,hc2,hnil,hx⟩:=hv.cells;refine eN [(0,_)] func213 O ntmps213 O O hG ?_;intro a H;refine kP H (SR fun _ K1=>au K1 O (SQ fun _ K2=>SR fun _ K3=>Rm O ?_));clear H K1;intro a H;refine CV rP H wn O O ?_;clear H;intro a H;refine K3 _ _ ?_;clear K3;refine jX H O ?_ ?_
 ·intro h4
  exact kP H (SR fun _ K4=>au K4 O (LR results213 O fun H=>H.rt (by rw [hnil (by simpa using h4)];exact av.og O (by simp [maxLen]))))
 intro h4
 try have p4:=dF h4
 refine gT ?_;refine K2 _ _ ?_;clear K2;refine bP (fun _ K5=>?_)
 have hA:¬ A=none:=by intro e;rw [e] at h4;cases h4
 refine mX ?_;refine CU rP uP H wn O ?_;clear H;intro b5 a w hb5 H;refine kH H (Rm O ?_);clear H;intro a H
 by_cases hr0:rows=[]
 ·have hn0:n=0:=by rw [hn,hr0];rfl
  subst hn0;refine BM rP uP H wn O O (fD _) O ?_;clear H;intro a H;exact kH H (aZ K5 O (LR results213 O fun H=>H.rt (by rw [hr0];exact av.og O (by simp [maxLen]))))
 obtain ⟨b,o,xs,rfl,hxl,hxc,hx1,fZ⟩:=hx hr0;refine mh (Li:=[]) (Lo:=[_]) (news:=xs) rP uP O O H wn O O bV.empty hxl (fun j u hj=>H.hp.aI (hxc j u hj)) hx1 V V O ?_;clear H;intro v7 Lo a w hrow H;obtain ⟨G',hm,hrep,H⟩:=H.qF hrow (rows:=rows) V (by simpa using fZ)
 try clear hG
 obtain ⟨G2,hG2⟩:∃ g,g=G':=⟨_,O⟩;subst hG2;exact kH H (aZ K5 O (LR results213 O fun H=>H.rt hrep))
theorem aoR (G:GH) (w0:World) (hG:Hold G w0) (rows:List (List Dat)) (A:Option Addr) (n c:Nat) (hv:av G (.sl 4 rows) (.slice A n c)) (hz:rows.length<=4294967296) :
  Calls prog 214 #[.slice A n c] w0 (bG w0 G fun v G'=>av G' (.sl 4 rows) v):=by
 obtain ⟨hn,hc1,hc2,hnil,hx⟩:=hv.cells;refine eN [(0,_)] func214 O ntmps214 O O hG ?_;intro a H;refine kP H (SR fun _ K1=>au K1 O (SQ fun _ K2=>SR fun _ K3=>Rm O ?_));clear H K1;intro a H;refine CV vZ H wn O O ?_;clear H;intro a H;refine K3 _ _ ?_;clear K3;refine jX H O ?_ ?_
 ·intro h4
  exact kP H (SR fun _ K4=>au K4 O (LR results214 O fun H=>H.rt (by rw [hnil (by simpa using h4)];exact av.og O (by simp [maxLen]))))
 intro h4
 try have p4:=dF h4
 refine gT ?_;refine K2 _ _ ?_;clear K2;refine bP (fun _ K5=>?_)
 have hA:¬ A=none:=by intro e;rw [e] at h4;cases h4
 refine mX ?_;refine CU vZ uQ H wn O ?_;clear H;intro b5 a w hb5 H;refine kH H (Rm O ?_);clear H;intro a H
 by_cases hr0:rows=[]
 ·have hn0:n=0:=by rw [hn,hr0];rfl
  subst hn0;refine BM vZ uQ H wn O O (fD _) O ?_;clear H;intro a H;exact kH H (aZ K5 O (LR results214 O fun H=>H.rt (by rw [hr0];exact av.og O (by simp [maxLen]))))
 obtain ⟨b,o,xs,rfl,hxl,hxc,hx1,fZ⟩:=hx hr0;refine mh (Li:=[]) (Lo:=[_]) (news:=xs) vZ uQ O O H wn O O bV.empty hxl (fun j u hj=>H.hp.aI (hxc j u hj)) hx1 V V O ?_;clear H;intro v7 Lo a w hrow H;obtain ⟨G',hm,hrep,H⟩:=H.qF hrow (rows:=rows) V (by simpa using fZ)
 try clear hG
 obtain ⟨G2,hG2⟩:∃ g,g=G':=⟨_,O⟩;subst hG2;exact kH H (aZ K5 O (LR results214 O fun H=>H.rt hrep))
theorem anv {p:Prop} (h:p:=by
 exact kH H (Rf wI O fun _ H=>fin H iJ O)):p:=h
theorem VA {p:Prop} (h:p:=by
 refine dB [] O trivial Z sG O O ?_;intro bC a w G1 hG HT H fin;exact anv):p:=h
theorem VG {p:Prop} (h:p:=by
 clear H;rintro v10 tZ a w za wM H;exact fin H wM (za)):p:=h
theorem MN (G:GH) (w0:World) (hG:Hold G w0) (h:fH) (pA dA yA:Option Addr) (pn pc dn dc yn yc:Nat) (hv:jI G h (.slice pA pn pc) (.slice dA dn dc) (.slice yA yn yc)) (hz:oN h<=4294967296) :
  Calls prog 156 #[.agg #[.slice pA pn pc,vi h.marks.ins,vi h.marks.move,.slice dA dn dc,.slice yA yn yc]] w0 (bG w0 G fun v G'=>∃ p d l,v=.agg #[p,vi h.marks.ins,vi h.marks.move,d,l]∧jI G' h p d l):=by
 have he:=OT h;have h1:=tT (h.props.map jf.dat);have h2:=tT (h.marks.dJ.map ku.dat);have h3:=tT (h.marks.layers.map jK.dat);refine eN [(0,_)] func156 O ntmps156 O O hG ?_;intro a H;refine dH (fun _ K1=>?_);refine eB (cs:=[_,_,_,_,_]) H wn O O O ?_;clear H;intro b1 a w hb1 H;refine dR nT H wn O ?_;clear H;intro b2 a w hb2 H;refine K1 _ _ ?_;clear K1;refine kP H (SR fun _ K2=>aU GZ BS 1 O O ?_);clear H;intro a H;refine s_call aeW H wn O (adY _ _ H.ro _ _ _ _ hv.props V) O ?_;clear H;rintro v5 G5 a w vM XM H;obtain ⟨A5,n5,c5,rfl⟩:=vM.form;refine kH H (Rf GZ O ?_);clear H;intro a H;refine bM BS 1 (vs:=[_]) H wn O ?_;clear H;intro w H;refine K2 _ _ ?_;clear K2;refine bP (fun _ K3=>?_);obtain ⟨hvp,hvd,hvy⟩:=hv.mono XM;clear hv
 have sG:wu (fun (dK:Nat) (v:ah) (G:GH)=>match dK with|0=>v=(aJ b1 1)|1=>v=(aJ b1 3)|2=>v=.slice dA dn dc|3=>av G (.sl 2 (h.marks.dJ.map ku.dat)) v|4=>v=(aJ b1 1)|5=>v=(aJ b1 4)|6=>v=.slice yA yn yc|7=>av G (.sl 4 (h.marks.layers.map jK.dat)) v|8=>v=(aJ b1 1)|9=>v=(aJ b1 3)|_=>True):=by intro dK v G G' hm h;(iterate 14 (rcases dK with _|dK;(first|exact h|exact av.mono hm h)));exact trivial
 refine xC (hmx) [[],[0],[0,1],[0,1,2],[],[4],[4,5],ra 0 7,ra 0 7,(ra 0 7++[8]),ra 0 10,ra 0 11,ra 0 12,ra 0 13] (ra 10 4) Z Z _ sG H ?_ ?_
 ·clear H;refine aC ?_ ?_ ?_ ?_ (aC ?_ ?_ ?_ ?_ (aC ?_ ?_ (bQ O) (bQ O) (bK (bQ O) (bK (bQ O) dG))))
  ·exact VA
  ·refine dB [(0,7,_)] O ⟨fun _ _ h=>h,aB⟩ Z sG O O ?_;intro bC a w G1 hG HT H fin;exact kH H (Rf yR O fun _ H=>fin H iJ O)
  ·refine dB [(1,8,_)] O ⟨fun _ _ h=>h,aB⟩ Z sG O O ?_;intro bC a w G1 hG HT H fin;exact kH H (Ro zC 1 O fun _ H=>fin H iJ O)
  ·refine dB [(2,9,_)] O ⟨fun _ _ h=>h,aB⟩ Z sG O O ?_;intro bC a w G1 hG HT H fin;refine s_call aqQ H wn O (aoM _ _ H.ro _ _ _ _ (hvd.mono hG) V) O ?_;exact VG
  ·exact VA
  ·refine dB [(4,11,_)] O ⟨fun _ _ h=>h,aB⟩ Z sG O O ?_;intro bC a w G1 hG HT H fin;exact kH H (Rf EU O fun _ H=>fin H iJ O)
  ·refine dB [(5,12,_)] O ⟨fun _ _ h=>h,aB⟩ Z sG O O ?_;intro bC a w G1 hG HT H fin;exact kH H (Ro FL 1 O fun _ H=>fin H iJ O)
  ·refine dB [(6,13,_)] O ⟨fun _ _ h=>h,aB⟩ Z sG O O ?_;intro bC a w G1 hG HT H fin;refine s_call aqR H wn O (aoR _ _ H.ro _ _ _ _ (hvy.mono hG) V) O ?_;clear H;rintro v14 EA a w xO Bl H;exact fin H Bl (xO)
  ·exact VA
  refine dB [(8,15,_)] O ⟨fun _ _ h=>h,aB⟩ Z sG O O ?_;intro bC a w G1 hG HT H fin;exact kH H (Rf yR O fun _ H=>fin H iJ O)
 clear H;intro a w G D8 H hv;obtain ⟨u10,NY,za⟩:=hv 3 10 Q1 O;(try dsimp only at za);obtain ⟨A10,n10,c10,rfl⟩:=za.form;have H:=H.fV NY;obtain ⟨u14,N7,xO⟩:=hv 7 14 Q1 O;(try dsimp only at xO);obtain ⟨TP,n14,c14,rfl⟩:=xO.form;have H:=H.fV N7;have H:=H.aQ (hv 9 16 O O) O;clear hv;refine bM zC 1 (vs:=[_]) H wn O ?_;clear H;intro w H;refine kH H (Rf wI O (Rf EU O ?_));clear H;intro a H;refine bM FL 1 (vs:=[_]) H wn O ?_;clear H;intro w H;refine aF ⟨O,?_⟩;refine K3 _ _ ?_;clear K3;refine dH (fun _ K4=>?_);refine bq nT (cs:=[_,_,_,_,_]) H wn O O (H.hp.dD 1 O O) O ?_;clear H;intro a H;refine bM nT 0 (vs:=[_,_,_,_,_]) H wn O ?_;clear H;intro w H;refine K4 _ _ ?_;clear K4;refine gu ?_;refine (leave1 H results156 (.cons (vX nT (cs:=[_,_,_,_,_]) H O O (H.hp.dD 0 O O)) .nil) ?_).1;exact H.rt ⟨_,_,_,O,vM.mono D8,za,xO⟩
theorem wR {G:GH} {w:World} (h:Hold G w):fM G [] w:=⟨h,fun _ h=>(by cases h),fun _ h=>(by cases h),List.Pairwise.nil⟩
theorem abr {p:Prop} (h:p:=by
 exact ⟨none,0,by simp,by simp,by simp [maxLen],fun h=>absurd O h⟩):p:=h
theorem abX {p:Prop} (h:p:=by
 refine hp1.ret ?_;have:rows=[]:=List.eq_nil_of_length_eq_zero V;subst this
 simp only [av]
 exact abr):p:=h
theorem JC {P:Program} {f:FuncId} {args:Array ah} {w0:World} {G:GH} {e sz n:Nat} {rows:List (List Dat)} (hG:Hold G w0) (h:Calls P f args w0 (fB w0 G [] fun u G' L'=>∃ xs,bV e sz u n xs L'∧bT G' sz rows xs)) (hl:rows.length=n) :
  Calls P f args w0 (bG w0 G fun u G'=>av G' (.sl sz rows) u):=by
 intro cs;obtain ⟨e1,w',fr,⟨v,G',L',rfl,hch,xs,hrow,fZ⟩,h2,h3,h4⟩:=h cs;have hp0:Hp w0 (fun k=>k < w0.heap.size) G G ([]++[]) w0:=⟨O,O,O,fD _,fun _ h=>h,fun _ _=>rfl,hG,fun _ _ h=>h,fun _ _ h=>.inl h,fun _ h=>(by cases h),fun _ h=>(by cases h),fun _ h=>(by cases h),List.Pairwise.nil⟩;have hp1:=hp0.change hch;rw [gJ] at hp1;refine ⟨_,w',fr,?_,h2,h3,h4⟩
 rcases hrow.2 with ⟨rfl,h5,rfl⟩|⟨b,cap,cur,rfl,rfl,h5,h6,h7,h8⟩
 ·exact abX
 have hn:=hp1.uN (b,.cells cur e (0,0)) (by simp);exact (hp1.giveUp 0 O).ret (av.vU (GH.Gp G' b _) hl h5 h6 h8 (fZ.mono fun k o h=>GH.Jj G' hn k o h))
def Dh (fv:ah) (w0:World) (G:GH) (d d':List Dat):Prop:=∀ (G1:GH) (w1:World) (cs:List ah),(∀ b o,G b=some o->G1 b=some o)->Hold G1 w1->aX G1 d cs ->
 tY prog fv [.agg cs.toArray] w1 (bG w1 G1 fun u G'=>∃ cs',u=.agg cs'.toArray∧aX G' d' cs')
abbrev I6 (fv:ah) (w0:World) (G:GH) (d:List Dat):Prop:=Dh fv w0 G d d
theorem PW {p:Prop} (h:p:=by
 exact ⟨V,bV.nil,by simpa using bT.nil,fun _ _ h=>h⟩):p:=h
theorem anD {p:Prop} (h:p:=by
 exact (fZ.mono tK).snoc (by simpa using cK) (by rw [zW];rfl)):p:=h
theorem UW {p:Prop} (h:p:=by
 exact H.hp.gI ⟨_,hrw,by rw [lU (by simp)] at fZ;exact fZ⟩):p:=h
theorem U5 {p:Prop} (h:p:=by
 clear H;intro v19 Uh a w Fx H;refine kH H (aZ K7 O (SC (Rd O (Rm O ?_))));clear H K7;intro a H;refine aF ?_;refine dS ((k+1,v19,xs++DF,Uh,Ay)) (by exact (H.dV (Pl:=[_,_]) (dL:=[]) [] Q1 O).sub ⟨O,O,O,O,O,aB⟩) ?_
 (try dsimp only);refine ⟨V,Fx,?_,fun b o h=>tK b o (hgm b o h)⟩;rw [jk (by simpa using hk2)];exact anD):p:=h
theorem aez (φ:ak->ak) (G:GH) (w0:World) (hO:fM G [] w0) (l:List ak) (v fv:ah) (hv:av G (.sl 11 (l.map ak.dat)) v) (hz:l.length<=4294967296) (hf:∀ x∈l,Dh fv w0 G x.dat (φ x).dat) :
  Calls prog 154 #[v,fv] w0 (fB w0 G [] fun u G' L'=>∃ xs,bV 128 11 u l.length xs L'∧bT G' 11 (l.map fun x=>(φ x).dat) xs):=by
 obtain ⟨A,c,rfl,hc1,hc2,hg⟩:=hv.slice
 have hml:4294967297<=maxLen:=by decide
 rw [bR] at *;refine iB (N:=22) (T:=[(0,_),(1,_)]) func154 O ntmps154 O O hO ?_;intro a H;refine kP H (SR fun _ K1=>au K1 O (SR fun _ K2=>au K2 O (SQ fun _ K3=>SR fun _ K4=>Rm O (Rl eH O (Rm O (Kz K4 (SB ?_)))))));clear H K1 K2 K4;intro a H;skip;refine eO (ι:=Nat × ah × List ah × OL × GH) (Tc:=[(1,_),(8,_),(9,_)]) (Lc:=[]) (fun gh=>[(5,gh.2.1),(10,vi gh.1)]) (fun gh=>[]++gh.2.2.2.1) (fun gh=>gh.2.2.2.2) (fun gh=>gh.1<=l.length∧bV 128 11 gh.2.1 gh.1 gh.2.2.1 gh.2.2.2.1∧bT gh.2.2.2.2 11 ((l.map fun x=>(φ x).dat).take gh.1) gh.2.2.1∧(∀ b o,G b=some o->gh.2.2.2.2 b=some o)) (fun gh=>l.length - gh.1) ((0,.slice none 0 0,[],[],G)) (by exact H.sub ⟨O,O,O,O,O,aB⟩) ?_ ?_
 ·exact PW
 clear H;rintro ⟨k,v,xs,Lo,g⟩ a w hI H;dsimp only at hI H;obtain ⟨hk,hrw,fZ,hgm⟩:=hI;dsimp only [lca,bD] at H;refine kP H (SR fun _ K5=>Rc O (Kz K5 (SQ fun _ K6=>Cd O ?_ ?_))) <;> clear H K5
 ·intro h11 a H
  try have qp:=dT h11
  have hk2:k < l.length:=by omega
  obtain ⟨b,o,cs,rfl,hcl,hrow,hrep⟩:=hg k l[k].dat (by simp [hk2]);obtain ⟨pA,pn,pc,dA,dn,dc,yA,yn,yc,fA,fn,fc,rA,rn,rc,rfl,-⟩:=hrep.item;replace hrow:=fun j u hj=>aK hgm (hrow j u hj);refine kP H (Kc K6 (SQ fun _ K7=>SB (SR fun _ K8=>Ri eH cO O O ?_)));clear H K6;intro a H;refine bq cO (cs:=[_,_,_,_,_,_,_,_,_,_,_]) H wn O O (fun j v hj=>H.hp.aI (hrow j v hj)) O ?_;clear H;intro a H;refine dR cO H wn O ?_;clear H;intro b7 a w Cq H;refine bM cO 0 (vs:=[_,_,_,_,_,_,_,_,_,_,_]) H wn O ?_;clear H;intro w H;refine K8 _ _ ?_;clear K8;refine kP H (SC (Rm O (Rm O ?_)));clear H;intro a H;refine bq cO (cs:=[_,_,_,_,_,_,_,_,_,_,_]) H wn O O (H.hp.dD 0 O O) O ?_;clear H;intro a H;refine oL H wn O O (hf _ (jl hk2) _ _ _ hgm H.ro (hrep.mono hgm)) O ?_;clear H;rintro v17 Ay a w ⟨DF,rfl,cK⟩ tK H;obtain ⟨cs,hcs⟩:∃ cs,cs=DF:=⟨_,O⟩;obtain ⟨pA,pn,pc,dA,dn,dc,yA,yn,yc,fA,fn,fc,rA,rn,rc,zW,-⟩:=cK.item;rw [zW] at H;refine iG eH cO [_,_,_,_,_,_,_,_,_,_,_] [_,_,_,_,_,_,_,_,_,_,_] H wn O O O O O (by intro i q h;match i,h with|0,h=>exact h|n+1,h=>simp at h) O O ?_;clear H;intro b18 a w QW H;refine mh (Li:=[_,_]) (Lo:=Lo) (news:=DF) eH cO O O H wn O O hrw (by rw [zW];rfl) (by rw [zW];exact H.hp.dD 0 O O) cK.one V V O ?_;exact U5
 intro h11 a H
 try have qp:=dF h11
 refine dX ?_;refine K3 _ _ ?_;clear K3;refine kP H (SR fun _ K9=>Rm O (au K9 O ?_));clear H K9;intro a H;refine lr H results154 O ?_
 obtain rfl:k=l.length:=by omega
 exact UW
theorem apH (φ:ak->ak) (G:GH) (w0:World) (hG:Hold G w0) (l:List ak) (v fv:ah) (hv:av G (.sl 11 (l.map ak.dat)) v) (hz:l.length<=4294967296) (hf:∀ x∈l,Dh fv w0 G x.dat (φ x).dat) :
  Calls prog 154 #[v,fv] w0 (bG w0 G fun u G'=>av G' (.sl 11 (l.map fun x=>(φ x).dat)) u):=JC hG (aez φ G w0 (wR hG) l v fv hv hz hf) (by simp)
theorem apE (G:GH) (w0:World) (hG:Hold G w0) (l:List ak) (v fv:ah) (hv:av G (.sl 11 (l.map ak.dat)) v) (hz:l.length<=4294967296) (hf:∀ x∈l,I6 fv w0 G x.dat) :
  Calls prog 154 #[v,fv] w0 (bG w0 G fun u G'=>av G' (.sl 11 (l.map ak.dat)) u):=apH (fun x=>x) G w0 hG l v fv hv hz hf
theorem apG (φ:aM->aM) (G:GH) (w0:World) (hO:fM G [] w0) (l:List aM) (v fv:ah) (hv:av G (.sl 6 (l.map aM.dat)) v) (hz:l.length<=4294967296) (hf:∀ x∈l,Dh fv w0 G x.dat (φ x).dat) :
  Calls prog 157 #[v,fv] w0 (fB w0 G [] fun u G' L'=>∃ xs,bV 131 6 u l.length xs L'∧bT G' 6 (l.map fun x=>(φ x).dat) xs):=by
 obtain ⟨A,c,rfl,hc1,hc2,hg⟩:=hv.slice
 have hml:4294967297<=maxLen:=by decide
 rw [bR] at *;refine iB (N:=22) (T:=[(0,_),(1,_)]) func157 O ntmps157 O O hO ?_;intro a H;refine kP H (SR fun _ K1=>au K1 O (SR fun _ K2=>au K2 O (SQ fun _ K3=>SR fun _ K4=>Rm O (Rl jS O (Rm O (Kz K4 (SB ?_)))))));clear H K1 K2 K4;intro a H;skip;refine eO (ι:=Nat × ah × List ah × OL × GH) (Tc:=[(1,_),(8,_),(9,_)]) (Lc:=[]) (fun gh=>[(5,gh.2.1),(10,vi gh.1)]) (fun gh=>[]++gh.2.2.2.1) (fun gh=>gh.2.2.2.2) (fun gh=>gh.1<=l.length∧bV 131 6 gh.2.1 gh.1 gh.2.2.1 gh.2.2.2.1∧bT gh.2.2.2.2 6 ((l.map fun x=>(φ x).dat).take gh.1) gh.2.2.1∧(∀ b o,G b=some o->gh.2.2.2.2 b=some o)) (fun gh=>l.length - gh.1) ((0,.slice none 0 0,[],[],G)) (by exact H.sub ⟨O,O,O,O,O,aB⟩) ?_ ?_
 ·exact PW
 clear H;rintro ⟨k,v,xs,Lo,g⟩ a w hI H;dsimp only at hI H;obtain ⟨hk,hrw,fZ,hgm⟩:=hI;dsimp only [lca,bD] at H;refine kP H (SR fun _ K5=>Rc O (Kz K5 (SQ fun _ K6=>Cd O ?_ ?_))) <;> clear H K5
 ·intro h11 a H
  try have qp:=dT h11
  have hk2:k < l.length:=by omega
  obtain ⟨b,o,cs,rfl,hcl,hrow,hrep⟩:=hg k l[k].dat (by simp [hk2]);obtain ⟨pA,pn,pc,dA,dn,dc,yA,yn,yc,fA,fn,fc,rfl,-⟩:=hrep.row;replace hrow:=fun j u hj=>aK hgm (hrow j u hj);refine kP H (Kc K6 (SQ fun _ K7=>SB (SR fun _ K8=>Ri jS ig O O ?_)));clear H K6;intro a H;refine bq ig (cs:=[_,_,_,_,_,_]) H wn O O (fun j v hj=>H.hp.aI (hrow j v hj)) O ?_;clear H;intro a H;refine dR ig H wn O ?_;clear H;intro b7 a w Cq H;refine bM ig 0 (vs:=[_,_,_,_,_,_]) H wn O ?_;clear H;intro w H;refine K8 _ _ ?_;clear K8;refine kP H (SC (Rm O (Rm O ?_)));clear H;intro a H;refine bq ig (cs:=[_,_,_,_,_,_]) H wn O O (H.hp.dD 0 O O) O ?_;clear H;intro a H;refine oL H wn O O (hf _ (jl hk2) _ _ _ hgm H.ro (hrep.mono hgm)) O ?_;clear H;rintro v17 Ay a w ⟨DF,rfl,cK⟩ tK H;obtain ⟨cs,hcs⟩:∃ cs,cs=DF:=⟨_,O⟩;obtain ⟨pA,pn,pc,dA,dn,dc,yA,yn,yc,fA,fn,fc,zW,-⟩:=cK.row;rw [zW] at H;refine iG jS ig [_,_,_,_,_,_] [_,_,_,_,_,_] H wn O O O O O (by intro i q h;match i,h with|0,h=>exact h|n+1,h=>simp at h) O O ?_;clear H;intro b18 a w QW H;refine mh (Li:=[_,_]) (Lo:=Lo) (news:=DF) jS ig O O H wn O O hrw (by rw [zW];rfl) (by rw [zW];exact H.hp.dD 0 O O) cK.one V V O ?_;exact U5
 intro h11 a H
 try have qp:=dF h11
 refine dX ?_;refine K3 _ _ ?_;clear K3;refine kP H (SR fun _ K9=>Rm O (au K9 O ?_));clear H K9;intro a H;refine lr H results157 O ?_
 obtain rfl:k=l.length:=by omega
 exact UW
theorem aeC (φ:aM->aM) (G:GH) (w0:World) (hG:Hold G w0) (l:List aM) (v fv:ah) (hv:av G (.sl 6 (l.map aM.dat)) v) (hz:l.length<=4294967296) (hf:∀ x∈l,Dh fv w0 G x.dat (φ x).dat) :
  Calls prog 157 #[v,fv] w0 (bG w0 G fun u G'=>av G' (.sl 6 (l.map fun x=>(φ x).dat)) u):=JC hG (apG φ G w0 (wR hG) l v fv hv hz hf) (by simp)
theorem aeA (G:GH) (w0:World) (hG:Hold G w0) (l:List aM) (v fv:ah) (hv:av G (.sl 6 (l.map aM.dat)) v) (hz:l.length<=4294967296) (hf:∀ x∈l,I6 fv w0 G x.dat) :
  Calls prog 157 #[v,fv] w0 (bG w0 G fun u G'=>av G' (.sl 6 (l.map aM.dat)) u):=aeC (fun x=>x) G w0 hG l v fv hv hz hf
theorem apF (φ:aN->aN) (G:GH) (w0:World) (hO:fM G [] w0) (l:List aN) (v fv:ah) (hv:av G (.sl 7 (l.map aN.dat)) v) (hz:l.length<=4294967296) (hf:∀ x∈l,Dh fv w0 G x.dat (φ x).dat) :
  Calls prog 215 #[v,fv] w0 (fB w0 G [] fun u G' L'=>∃ xs,bV 134 7 u l.length xs L'∧bT G' 7 (l.map fun x=>(φ x).dat) xs):=by
 obtain ⟨A,c,rfl,hc1,hc2,hg⟩:=hv.slice
 have hml:4294967297<=maxLen:=by decide
 rw [bR] at *;refine iB (N:=22) (T:=[(0,_),(1,_)]) func215 O ntmps215 O O hO ?_;intro a H;refine kP H (SR fun _ K1=>au K1 O (SR fun _ K2=>au K2 O (SQ fun _ K3=>SR fun _ K4=>Rm O (Rl kQ O (Rm O (Kz K4 (SB ?_)))))));clear H K1 K2 K4;intro a H;skip;refine eO (ι:=Nat × ah × List ah × OL × GH) (Tc:=[(1,_),(8,_),(9,_)]) (Lc:=[]) (fun gh=>[(5,gh.2.1),(10,vi gh.1)]) (fun gh=>[]++gh.2.2.2.1) (fun gh=>gh.2.2.2.2) (fun gh=>gh.1<=l.length∧bV 134 7 gh.2.1 gh.1 gh.2.2.1 gh.2.2.2.1∧bT gh.2.2.2.2 7 ((l.map fun x=>(φ x).dat).take gh.1) gh.2.2.1∧(∀ b o,G b=some o->gh.2.2.2.2 b=some o)) (fun gh=>l.length - gh.1) ((0,.slice none 0 0,[],[],G)) (by exact H.sub ⟨O,O,O,O,O,aB⟩) ?_ ?_
 ·exact PW
 clear H;rintro ⟨k,v,xs,Lo,g⟩ a w hI H;dsimp only at hI H;obtain ⟨hk,hrw,fZ,hgm⟩:=hI;dsimp only [lca,bD] at H;refine kP H (SR fun _ K5=>Rc O (Kz K5 (SQ fun _ K6=>Cd O ?_ ?_))) <;> clear H K5
 ·intro h11 a H
  try have qp:=dT h11
  have hk2:k < l.length:=by omega
  obtain ⟨b,o,cs,rfl,hcl,hrow,hrep⟩:=hg k l[k].dat (by simp [hk2]);obtain ⟨pA,pn,pc,dA,dn,dc,yA,yn,yc,fA,fn,fc,rfl,-⟩:=hrep.cell;replace hrow:=fun j u hj=>aK hgm (hrow j u hj);refine kP H (Kc K6 (SQ fun _ K7=>SB (SR fun _ K8=>Ri kQ iN O O ?_)));clear H K6;intro a H;refine bq iN (cs:=[_,_,_,_,_,_,_]) H wn O O (fun j v hj=>H.hp.aI (hrow j v hj)) O ?_;clear H;intro a H;refine dR iN H wn O ?_;clear H;intro b7 a w Cq H;refine bM iN 0 (vs:=[_,_,_,_,_,_,_]) H wn O ?_;clear H;intro w H;refine K8 _ _ ?_;clear K8;refine kP H (SC (Rm O (Rm O ?_)));clear H;intro a H;refine bq iN (cs:=[_,_,_,_,_,_,_]) H wn O O (H.hp.dD 0 O O) O ?_;clear H;intro a H;refine oL H wn O O (hf _ (jl hk2) _ _ _ hgm H.ro (hrep.mono hgm)) O ?_;clear H;rintro v17 Ay a w ⟨DF,rfl,cK⟩ tK H;obtain ⟨cs,hcs⟩:∃ cs,cs=DF:=⟨_,O⟩;obtain ⟨pA,pn,pc,dA,dn,dc,yA,yn,yc,fA,fn,fc,zW,-⟩:=cK.cell;rw [zW] at H;refine iG kQ iN [_,_,_,_,_,_,_] [_,_,_,_,_,_,_] H wn O O O O O (by intro i q h;match i,h with|0,h=>exact h|n+1,h=>simp at h) O O ?_;clear H;intro b18 a w QW H;refine mh (Li:=[_,_]) (Lo:=Lo) (news:=DF) kQ iN O O H wn O O hrw (by rw [zW];rfl) (by rw [zW];exact H.hp.dD 0 O O) cK.one V V O ?_;exact U5
 intro h11 a H
 try have qp:=dF h11
 refine dX ?_;refine K3 _ _ ?_;clear K3;refine kP H (SR fun _ K9=>Rm O (au K9 O ?_));clear H K9;intro a H;refine lr H results215 O ?_
 obtain rfl:k=l.length:=by omega
 exact UW
theorem aeB (φ:aN->aN) (G:GH) (w0:World) (hG:Hold G w0) (l:List aN) (v fv:ah) (hv:av G (.sl 7 (l.map aN.dat)) v) (hz:l.length<=4294967296) (hf:∀ x∈l,Dh fv w0 G x.dat (φ x).dat) :
  Calls prog 215 #[v,fv] w0 (bG w0 G fun u G'=>av G' (.sl 7 (l.map fun x=>(φ x).dat)) u):=JC hG (apF φ G w0 (wR hG) l v fv hv hz hf) (by simp)
theorem apD (G:GH) (w0:World) (hG:Hold G w0) (l:List aN) (v fv:ah) (hv:av G (.sl 7 (l.map aN.dat)) v) (hz:l.length<=4294967296) (hf:∀ x∈l,I6 fv w0 G x.dat) :
  Calls prog 215 #[v,fv] w0 (bG w0 G fun u G'=>av G' (.sl 7 (l.map aN.dat)) u):=aeB (fun x=>x) G w0 hG l v fv hv hz hf
def F5 (n:Nat):Prop:=∀ (G:GH) (w0:World),Hold G w0->∀ (l:List ak) (v:ah),av G (.sl 11 (l.map ak.dat)) v->aP l < n ->
 Calls prog 71 #[v] w0 (bG w0 G fun u G'=>av G' (.sl 11 (l.map ak.dat)) u)
theorem anH {p:Prop} (h:p:=by
 exact kH H (Rf JM O fun _ H=>fin H iJ O)):p:=h
theorem GD {p:Prop} (h:p:=by
 exact fin H iJ O):p:=h
theorem anq {p:Prop} (h:p:=by
 exact kH H (Rf DK O fun _ H=>fin H iJ O)):p:=h
theorem abh {p:Prop} (h:p:=by
 exact kH H (Ro fC 1 O fun _ H=>fin H iJ O)):p:=h
theorem iX {p:Prop} (h:p:=by
 clear H;intro a H;exact GD):p:=h
theorem acN {p:Prop} (h:p:=by
 refine dB [(3,6,_)] O ⟨fun _ _ h=>h,aB⟩ Z gK O O ?_;intro bC a w G1 hG HT H fin;refine s_call MZ H wn O (MN _ _ H.ro x.head _ _ _ _ _ _ _ _ _ (hh.mono hG) V) O ?_;clear H;rintro v7 G7 a w H9 E9 H;exact fin H E9 (H9)):p:=h
theorem adj {p:Prop} (h:p:=by
 refine dB [(0,3,_)] O ⟨fun _ _ h=>h,aB⟩ Z gK O O ?_;intro bC a w G1 hG HT H fin;exact kH H (Ro aD 1 O fun _ H=>fin H iJ O)):p:=h
theorem adn {p:Prop} (h:p:=by
 refine dB [] O trivial Z gK O O ?_;intro bC a w G1 hG HT H fin;exact kH H (Rf Na O fun _ H=>fin H iJ O)):p:=h
theorem ads {p:Prop} (h:p:=by
 refine dB [(5,8,_)] O ⟨fun _ _ h=>h,aB⟩ Z gK O O ?_;intro bC a w G1 hG HT H fin;exact abh):p:=h
theorem P6 {p:Prop} (h:p:=by
 intro bC a w G1 hG HT H fin;exact anq):p:=h
theorem P7 {p:Prop} (h:p:=by
 intro bC a w G1 hG HT H fin;exact anH):p:=h
theorem U6 {p:Prop} (h:p:=by
 refine bq nT (cs:=[_,_,_,_,_]) H wn O O (H.hp.dD 1 O O) O ?_;exact iX):p:=h
theorem acF {p:Prop} (h:p:=by
 refine dB [(2,5,_)] O ⟨fun _ _ h=>h,aB⟩ Z gK O O ?_;intro bC a w G1 hG HT H fin;exact U6):p:=h
theorem aoL {n:Nat} (ih:F5 n) (hn:n<=4294967296) (G:GH) (w0:World) (hG:Hold G w0) (x:aN) (cs:List ah) (hv:aX G x.dat cs) (hz:bY x.dat < n+1) :
  Calls prog 216 #[.agg cs.toArray] w0 (bG w0 G fun u G'=>∃ cs',u=.agg cs'.toArray∧aX G' x.dat cs'):=by
 have he:=Ar x;obtain ⟨pA,pn,pc,dA,dn,dc,yA,yn,yc,fA,fn,fc,rfl,hh,hf⟩:=hv.cell;refine eN [(0,_)] func216 O ntmps216 O O hG ?_;intro a H;refine dH (fun _ K1=>?_);refine eB (cs:=[_,_,_,_,_,_,_]) H wn O O O ?_;clear H;intro b1 a w hb1 H;refine dR iN H wn O ?_;clear H;intro b2 a w hb2 H;refine K1 _ _ ?_;clear K1;refine bP (fun _ K2=>?_)
 have gK:wu (fun (dK:Nat) (v:ah) (G:GH)=>match dK with|0=>v=(aJ b1 0)|1=>v=vi x.id|2=>v=(aJ b1 1)|3=>v=.agg #[.slice pA pn pc,vi x.head.marks.ins,vi x.head.marks.move,.slice dA dn dc,.slice yA yn yc]|4=>∃ p d l,v=.agg #[p,vi x.head.marks.ins,vi x.head.marks.move,d,l]∧jI G x.head p d l|5=>v=(aJ b1 6)|6=>v=.slice fA fn fc|7=>av G (.sl 11 (x.flow.map ak.dat)) v|_=>True):=by intro dK v G G' hm h;(iterate 10 (rcases dK with _|dK;(first|exact h|exact let ⟨p,d,l,h1,h2⟩:=h;⟨p,d,l,h1,h2.mono hm⟩|exact av.mono hm h)));exact trivial
 refine xC (hmx) [[],[0],[],[2],[2,3],[],[5],ra 2 5,ra 0 8,ra 0 9] [8,9] Z Z _ gK H ?_ ?_
 ·clear H;refine aC ?_ ?_ ?_ ?_ (aC ?_ ?_ ?_ ?_ (bK (bQ O) (bK (bQ O) dG)))
  ·refine dB [] O trivial Z gK O O ?_;exact P7
  ·exact adj
  ·exact adn
  ·exact acF
  ·exact acN
  ·refine dB [] O trivial Z gK O O ?_;exact P6
  ·exact ads
  refine dB [(6,9,_)] O ⟨fun _ _ h=>h,aB⟩ Z gK O O ?_;intro bC a w G1 hG HT H fin;refine s_call Qv H wn O (ih _ _ H.ro x.flow _ (hf.mono hG) V) O ?_;exact VG
 clear H;intro a w G jA H hv;have H:=H.aQ (hv 1 4 O O) O;obtain ⟨u7,Yd,H9⟩:=hv 4 7 Q1 O;(try dsimp only at H9);obtain ⟨p7,d7,l7,rfl,Ec⟩:=H9;obtain ⟨a1,a2,a3,rfl⟩:=Ec.props.form;obtain ⟨a4,a5,a6,rfl⟩:=Ec.dJ.form;obtain ⟨a7,a8,a9,rfl⟩:=Ec.layers.form;have H:=H.fV Yd;obtain ⟨u10,NY,za⟩:=hv 7 10 Q1 O;(try dsimp only at za);obtain ⟨A10,n10,c10,rfl⟩:=za.form;have H:=H.fV NY;clear hv;refine kg akR [_,_,_,_,_,_,_] H wn O O O O ?_;clear H;intro a H;refine bM iN 0 (vs:=[_,_,_,_,_,_,_]) H wn O ?_;clear H;intro w H;refine aF ⟨O,?_⟩;refine K2 _ _ ?_;clear K2;refine gu ?_;refine (leave1 H results216 (.cons (vX iN (cs:=[_,_,_,_,_,_,_]) H O O (H.hp.dD 0 O O)) .nil) ?_).1;exact H.rt ⟨_,O,aX.RY Ec za⟩
theorem aoK {n:Nat} (ih:F5 n) (hn:n<=4294967296) {G:GH} {w0:World} (x:aN) (hz:bY x.dat < n+1):I6 (.func (.func 216) #[] #[]) w0 G x.dat:=by
 intro G1 w1 cs hm1 hG1 hr;have h:=aoL ih hn _ _ hG1 x cs hr hz;have h2:=kG (P:=prog) (caps:=[]) (args:=[.agg cs.toArray]) aqS h;exact h2
theorem anr {p:Prop} (h:p:=by
 exact kH H (Rf uy O fun _ H=>fin H iJ O)):p:=h
theorem abj {p:Prop} (h:p:=by
 exact kH H (Ro rM 1 O fun _ H=>fin H iJ O)):p:=h
theorem Vm {p:Prop} (h:p:=by
 refine dB [(1,4,_)] O ⟨fun _ _ h=>h,aB⟩ Z gK O O ?_;intro bC a w G1 hG HT H fin;refine s_call MZ H wn O (MN _ _ H.ro x.head _ _ _ _ _ _ _ _ _ (hh.mono hG) V) O ?_;clear H;rintro v5 G5 a w vM Bn H;exact fin H Bn (vM)):p:=h
theorem ado {p:Prop} (h:p:=by
 refine dB [] O trivial Z gK O O ?_;intro bC a w G1 hG HT H fin;exact kH H (Rf M9 O fun _ H=>fin H iJ O)):p:=h
theorem MF {p:Prop} (h:p:=by
 intro bC a w G1 hG HT H fin;exact anr):p:=h
theorem adt {p:Prop} (h:p:=by
 refine dB [(3,6,_)] O ⟨fun _ _ h=>h,aB⟩ Z gK O O ?_;intro bC a w G1 hG HT H fin;exact abj):p:=h
theorem U3 {p:Prop} (h:p:=by
 clear H;rintro v8 G8 a w oW vE H;exact fin H vE (oW)):p:=h
theorem Vi {p:Prop} (h:p:=by
 refine dB [(0,3,_)] O ⟨fun _ _ h=>h,aB⟩ Z gK O O ?_;intro bC a w G1 hG HT H fin;exact U6):p:=h
theorem aoZ {n:Nat} (ih:F5 n) (hn:n<=4294967296) (G:GH) (w0:World) (hG:Hold G w0) (x:aM) (cs:List ah) (hv:aX G x.dat cs) (hz:bY x.dat < n+1) :
  Calls prog 158 #[.agg cs.toArray] w0 (bG w0 G fun u G'=>∃ cs',u=.agg cs'.toArray∧aX G' x.dat cs'):=by
 have he:=Av x;have hl:=FZ x.cells;obtain ⟨pA,pn,pc,dA,dn,dc,yA,yn,yc,fA,fn,fc,rfl,hh,hf⟩:=hv.row;refine eN [(0,_)] func158 O ntmps158 O O hG ?_;intro a H;refine dH (fun _ K1=>?_);refine eB (cs:=[_,_,_,_,_,_]) H wn O O O ?_;clear H;intro b1 a w hb1 H;refine dR ig H wn O ?_;clear H;intro b2 a w hb2 H;refine K1 _ _ ?_;clear K1;refine bP (fun _ K2=>?_)
 have gK:wu (fun (dK:Nat) (v:ah) (G:GH)=>match dK with|0=>v=(aJ b1 0)|1=>v=.agg #[.slice pA pn pc,vi x.head.marks.ins,vi x.head.marks.move,.slice dA dn dc,.slice yA yn yc]|2=>∃ p d l,v=.agg #[p,vi x.head.marks.ins,vi x.head.marks.move,d,l]∧jI G x.head p d l|3=>v=(aJ b1 5)|4=>v=.slice fA fn fc|5=>av G (.sl 7 (x.cells.map aN.dat)) v|_=>True):=by intro dK v G G' hm h;(iterate 8 (rcases dK with _|dK;(first|exact h|exact let ⟨p,d,l,h1,h2⟩:=h;⟨p,d,l,h1,h2.mono hm⟩|exact av.mono hm h)));exact trivial
 refine xC (hmx) [[],[0],[0,1],[],[3],ra 0 5,ra 0 6,ra 0 7] [6,7] Z Z _ gK H ?_ ?_
 ·clear H;refine aC ?_ ?_ ?_ ?_ (aC ?_ ?_ (bQ O) (bQ O) dG)
  ·exact ado
  ·exact Vi
  ·exact Vm
  ·refine dB [] O trivial Z gK O O ?_;exact MF
  ·exact adt
  refine dB [(4,7,_)] O ⟨fun _ _ h=>h,aB⟩ Z gK O O ?_;intro bC a w G1 hG HT H fin;refine s_call aeX H wn O (apD _ _ H.ro x.cells _ _ (hf.mono hG) V (fun y hy=>aoK ih hn y (by have:=alX hy;omega))) rfl ?_;exact U3
 clear H;intro a w G jA H hv;obtain ⟨u5,Ic,vM⟩:=hv 2 5 Q1 O;(try dsimp only at vM);obtain ⟨p5,d5,l5,rfl,xL⟩:=vM;obtain ⟨a1,a2,a3,rfl⟩:=xL.props.form;obtain ⟨a4,a5,a6,rfl⟩:=xL.dJ.form;obtain ⟨a7,a8,a9,rfl⟩:=xL.layers.form;have H:=H.fV Ic;obtain ⟨u8,Bz,oW⟩:=hv 5 8 Q1 O;(try dsimp only at oW);obtain ⟨A8,n8,c8,rfl⟩:=oW.form;have H:=H.fV Bz;clear hv;refine kg akQ [_,_,_,_,_,_] H wn O O O O ?_;clear H;intro a H;refine bM ig 0 (vs:=[_,_,_,_,_,_]) H wn O ?_;clear H;intro w H;refine aF ⟨O,?_⟩;refine K2 _ _ ?_;clear K2;refine gu ?_;refine (leave1 H results158 (.cons (vX ig (cs:=[_,_,_,_,_,_]) H O O (H.hp.dD 0 O O)) .nil) ?_).1;exact H.rt ⟨_,O,aX.RZ xL oW⟩
theorem aoY {n:Nat} (ih:F5 n) (hn:n<=4294967296) {G:GH} {w0:World} (x:aM) (hz:bY x.dat < n+1):I6 (.func (.func 158) #[] #[]) w0 G x.dat:=by
 intro G1 w1 cs hm1 hG1 hr;have h:=aoZ ih hn _ _ hG1 x cs hr hz;have h2:=kG (P:=prog) (caps:=[]) (args:=[.agg cs.toArray]) aqj h;exact h2
theorem abk {p:Prop} (h:p:=by
 exact kH H (Rf pR O fun _ H=>fin H iJ O)):p:=h
theorem aoJ {n:Nat} (ih:F5 n) (hn:n<=4294967296) (G:GH) (w0:World) (hG:Hold G w0) (x:ak) (cs:List ah) (hv:aX G x.dat cs) (hz:bY x.dat < n+1) :
  Calls prog 155 #[.agg cs.toArray] w0 (bG w0 G fun u G'=>∃ cs',u=.agg cs'.toArray∧aX G' x.dat cs'):=by
 have he:=pG x;have hl:=F4 x.rows;obtain ⟨pA,pn,pc,dA,dn,dc,yA,yn,yc,fA,fn,fc,rA,rn,rc,rfl,hh,hf,hr⟩:=hv.item;refine eN [(0,_)] func155 O ntmps155 O O hG ?_;intro a H;refine dH (fun _ K1=>?_);refine eB (cs:=[_,_,_,_,_,_,_,_,_,_,_]) H wn O O O ?_;clear H;intro b1 a w hb1 H;refine dR cO H wn O ?_;clear H;intro b2 a w hb2 H;refine K1 _ _ ?_;clear K1;refine bP (fun _ K2=>?_)
 have gK:wu (fun (dK:Nat) (v:ah) (G:GH)=>match dK with|0=>v=(aJ b1 4)|1=>v=.agg #[.slice pA pn pc,vi x.head.marks.ins,vi x.head.marks.move,.slice dA dn dc,.slice yA yn yc]|2=>∃ p d l,v=.agg #[p,vi x.head.marks.ins,vi x.head.marks.move,d,l]∧jI G x.head p d l|3=>v=(aJ b1 9)|4=>v=.slice fA fn fc|5=>av G (.sl 11 (x.flow.map ak.dat)) v|6=>v=(aJ b1 10)|7=>v=.slice rA rn rc|8=>av G (.sl 6 (x.rows.map aM.dat)) v|9=>v=(aJ b1 4)|_=>True):=by intro dK v G G' hm h;(iterate 15 (rcases dK with _|dK;(first|exact h|exact let ⟨p,d,l,h1,h2⟩:=h;⟨p,d,l,h1,h2.mono hm⟩|exact av.mono hm h)));exact trivial
 refine xC (hmx) [[],[0],[0,1],[],[3],ra 0 5,[],[6],ra 0 8,[0,1,2,3,4,6,7],ra 0 10,ra 0 11,ra 0 12,ra 0 13,ra 0 14] (ra 10 5) Z Z _ gK H ?_ ?_
 ·clear H;refine aC ?_ ?_ ?_ ?_ (aC ?_ ?_ ?_ ?_ (aC ?_ ?_ (bQ O) (bQ O) (bK (bQ O) (bK (bQ O) (bK (bQ O) dG)))))
  ·refine dB [] O trivial Z gK O O ?_;intro bC a w G1 hG HT H fin;exact kH H (Rf uq O fun _ H=>fin H iJ O)
  ·exact Vi
  ·exact Vm
  ·refine dB [] O trivial Z gK O O ?_;intro bC a w G1 hG HT H fin;exact kH H (Rf uw O fun _ H=>fin H iJ O)
  ·refine dB [(3,6,_)] O ⟨fun _ _ h=>h,aB⟩ Z gK O O ?_;intro bC a w G1 hG HT H fin;exact abh
  ·refine dB [(4,7,_)] O ⟨fun _ _ h=>h,aB⟩ Z gK O O ?_;intro bC a w G1 hG HT H fin;refine s_call Qv H wn O (ih _ _ H.ro x.flow _ (hf.mono hG) V) O ?_;exact U3
  ·refine dB [] O trivial Z gK O O ?_;intro bC a w G1 hG HT H fin;exact abk
  ·refine dB [(6,9,_)] O ⟨fun _ _ h=>h,aB⟩ Z gK O O ?_;intro bC a w G1 hG HT H fin;exact kH H (Ro oq 1 O fun _ H=>fin H iJ O)
  ·refine dB [(7,10,_)] O ⟨fun _ _ h=>h,aB⟩ Z gK O O ?_;intro bC a w G1 hG HT H fin;refine s_call Wi H wn O (aeA _ _ H.ro x.rows _ _ (hr.mono hG) V (fun y hy=>aoY ih hn y (by have:=amc hy;omega))) rfl ?_;clear H;rintro v11 Dl a w oG lH H;exact fin H lH (oG)
  refine dB [] O trivial Z gK O O ?_;intro bC a w G1 hG HT H fin;exact kH H (Rf uq O fun _ H=>fin H iJ O)
 clear H;intro a w G jA H hv;obtain ⟨u5,Ic,vM⟩:=hv 2 5 Q1 O;(try dsimp only at vM);obtain ⟨p5,d5,l5,rfl,xL⟩:=vM;obtain ⟨a1,a2,a3,rfl⟩:=xL.props.form;obtain ⟨a4,a5,a6,rfl⟩:=xL.dJ.form;obtain ⟨a7,a8,a9,rfl⟩:=xL.layers.form;have H:=H.fV Ic;obtain ⟨u8,Bz,oW⟩:=hv 5 8 Q1 O;(try dsimp only at oW);obtain ⟨A8,n8,c8,rfl⟩:=oW.form;have H:=H.fV Bz;obtain ⟨OD,Bw,oG⟩:=hv 8 11 Q1 O;(try dsimp only at oG);obtain ⟨A11,n11,c11,rfl⟩:=oG.form;have H:=H.fV Bw;have H:=H.aQ (hv 9 12 O O) O;clear hv;refine bM nT 1 (vs:=[_,_,_,_,_]) H wn O ?_;clear H;intro w H;refine kH H (Rf uw O ?_);clear H;intro a H;refine bM fC 1 (vs:=[_]) H wn O ?_;clear H;intro w H;refine kH H (Rf pR O ?_);clear H;intro a H;refine bM oq 1 (vs:=[_]) H wn O ?_;clear H;intro w H;refine aF ⟨O,?_⟩;refine K2 _ _ ?_;clear K2;refine dH (fun _ K3=>?_);refine bq cO (cs:=[_,_,_,_,_,_,_,_,_,_,_]) H wn O O (H.hp.dD 1 O O) O ?_;clear H;intro a H;refine bM cO 0 (vs:=[_,_,_,_,_,_,_,_,_,_,_]) H wn O ?_;clear H;intro w H;refine K3 _ _ ?_;clear K3;refine gu ?_;refine (leave1 H results155 (.cons (vX cO (cs:=[_,_,_,_,_,_,_,_,_,_,_]) H O O (H.hp.dD 0 O O)) .nil) ?_).1;exact H.rt ⟨_,O,aX.mkItem xL oW oG⟩
theorem adW {n:Nat} (ih:F5 n) (hn:n<=4294967296) {G:GH} {w0:World} (x:ak) (hz:bY x.dat < n+1):I6 (.func (.func 155) #[] #[]) w0 G x.dat:=by
 intro G1 w1 cs hm1 hG1 hr;have h:=aoJ ih hn _ _ hG1 x cs hr hz;have h2:=kG (P:=prog) (caps:=[]) (args:=[.agg cs.toArray]) aqi h;exact h2
theorem Qm:∀ n:Nat,n<=4294967297->F5 n
 | 0,_=>fun _ _ _ _ _ _ h=>absurd h V
 | n+1,hn=>by
  intro G w0 hG l v hv hz;have ih:=Qm n V;have hl:=Au l;refine eN [(0,_)] func71 O ntmps71 O O hG ?_;intro a H;refine kP H (SR fun _ K1=>au K1 O (SR fun _ K2=>Rm O ?_));clear H K1;intro a H;refine s_call aeO H wn O (apE _ _ H.ro l _ _ hv V (fun y hy=>adW ih V y (by have:=LM hy;omega))) rfl ?_;clear H;rintro v4 G4 a w hp4 J5 H;exact kH H (au K2 O (LR results71 O fun H=>H.rt hp4))
theorem apb (G:GH) (w0:World) (hG:Hold G w0) (l:List ak) (v:ah) (hv:av G (.sl 11 (l.map ak.dat)) v) (hz:aP l<=4294967296) :
  Calls prog 71 #[v] w0 (bG w0 G fun u G'=>av G' (.sl 11 (l.map ak.dat)) u):=Qm 4294967297 V G w0 hG l v hv V
theorem asy:OZ prog 197 [(0,false),(1,false)]:=⟨Z,Z,Z,Z,Z⟩
theorem asA:OZ prog 200 [(0,false),(1,false)]:=⟨Z,Z,Z,Z,Z⟩
theorem asB:OZ prog 202 [(0,false),(1,false),(2,false),(3,true)]:=⟨Z,Z,Z,Z,Z⟩
theorem apT:aW 119:=aY func119 O
theorem yQ:dz prog 27 0 0:=⟨Z⟩
theorem ET:dz prog 27 1 1:=⟨Z⟩
theorem apU:aW 120:=aY func120 O
theorem apV:aW 121:=aY func121 O
abbrev ku.cells (x:ku):List ah:=[vi x.rev,vi x.move]
abbrev jK.cells (x:jK):List ah:=[vi x.rev,vi x.key,vi x.before,.bool x.had]
theorem V4 {G:GH} {x:ku} {cs:List ah} (h:aX G x.dat cs):cs=x.cells:=by
 simp only [ku.dat,aX,av] at h
 obtain ⟨_,_,rfl,⟨rfl,_⟩,_,_,rfl,⟨rfl,_⟩,rfl⟩:=h
 rfl
theorem acd {p:Prop} (h:p:=by
 obtain ⟨_,_,rfl,⟨rfl,_⟩,_,_,rfl,⟨rfl,_⟩,_,_,rfl,⟨rfl,_⟩,_,_,rfl,⟨rfl,_⟩,rfl⟩:=h
 rfl):p:=h
theorem Yx {G:GH} {x:jK} {cs:List ah} (h:aX G x.dat cs):cs=x.cells:=by
 simp only [jK.dat,aX,av] at h
 exact acd
theorem jf.eq_iff (a b:jf):(a.key=b.key∧a.value=b.value)↔a=b:=by cases a;cases b;simp
theorem ku.eq_iff (a b:ku):(a.rev=b.rev∧a.move=b.move)↔a=b:=by cases a;cases b;simp
theorem jK.eq_iff (a b:jK):(a.rev=b.rev∧a.key=b.key∧a.before=b.before∧a.had=b.had)↔a=b:=by cases a;cases b;simp
instance:DecidableEq jf:=fun a b=>decidable_of_iff _ (jf.eq_iff a b)
instance:DecidableEq ku:=fun a b=>decidable_of_iff _ (ku.eq_iff a b)
instance:DecidableEq jK:=fun a b=>decidable_of_iff _ (jK.eq_iff a b)
theorem VB {p:Prop} (h:p:=by
 rw [zK]
 simp only [Bool.not_eq_true',Dr]
 rw [<- h]
 simp [mJ]):p:=h
theorem ayE (a b:jf):(!([(0,false),(1,false)].all fun o=>mJ #[vi a.key,vi a.value] o == mJ #[vi b.key,vi b.value] o))=!decide (a=b):=by
 have h:=jf.eq_iff a b;exact VB
theorem ayC (a b:ku):(!([(0,false),(1,false)].all fun o=>mJ #[vi a.rev,vi a.move] o == mJ #[vi b.rev,vi b.move] o))=!decide (a=b):=by
 have h:=ku.eq_iff a b;exact VB
theorem ayD (a b:jK):(!([(0,false),(1,false),(2,false),(3,true)].all fun o=>mJ #[vi a.rev,vi a.key,vi a.before,.bool a.had] o == mJ #[vi b.rev,vi b.key,vi b.before,.bool b.had] o))=!decide (a=b):=by
 have h:=jK.eq_iff a b;exact VB
theorem yE {p:Prop} (h:p:=by
 exact ⟨V,O,fun _ _ h=>h⟩):p:=h
theorem ant {p:Prop} (h:p:=by
 exact ⟨V,by rw [jk hk2,jk hk3,hsame,hsm],fun b o h=>pU b o (hgm b o h)⟩):p:=h
theorem Vo {p:Prop} (h:p:=by
 intro dU
 try have lK:=dF dU
 have hsm:A[k]=B[k]:=by simpa using dU
 refine kP H (Kc K9 (SC (Rd O (Rm O ?_))));clear H K9;intro a H;refine aF ?_;refine dS ((k+1,G)) (by exact H.sub ⟨O,O,O,O,aB⟩) ?_
 (try dsimp only);exact ant):p:=h
theorem asu (G:GH) (w0:World) (hG:Hold G w0) (A B:List jf) (v u:ah) (hv:av G (.sl 2 (A.map jf.dat)) v) (hu:av G (.sl 2 (B.map jf.dat)) u) :
  Calls prog 119 #[v,u] w0 (bG w0 G fun r G'=>r=.bool (decide (A=B))):=by
 obtain ⟨vA,vc,rfl,hc1,hc2,hg⟩:=hv.slice;obtain ⟨uA,uc,rfl,hd1,hd2,hh⟩:=hu.slice;have hml:maxLen=9223372036854775807:=rfl;(iterate 2 rw [bR] at *);refine eN [(0,_),(1,_)] func119 O ntmps119 O O hG ?_;intro a H;refine kP H (SR fun _ K1=>au K1 O (SQ fun _ K2=>SR fun _ K3=>Rm O (Rl rO O (Rm O (Rl rO O (Rc O (Kz K3 (Cd O ?_ ?_)))))))) <;> clear H K1 K3
 ·intro h10 a H
  try have kN:=dT h10
  exact kP H (SR fun _ K4=>au K4 O (LR results119 O fun H=>H.rt (iq (oP fun e=>absurd (dh List.length e) V).symm)))
 intro h10 a H
 try have kN:=dF h10
 refine kP H (Kc K2 (SQ fun _ K5=>SR fun _ K6=>Rm O (Rl rO O (Rm O (Kz K6 (SB ?_))))));clear H K2 K6;intro a H;skip;refine eO (ι:=Nat × GH) (Tc:=[(0,_),(1,_),(12,_)]) (Lc:=[]) (fun gh=>[(13,vi gh.1)]) (fun gh=>[]) (fun gh=>gh.2) (fun gh=>gh.1<=A.length∧A.take gh.1=B.take gh.1∧(∀ b o,G b=some o->gh.2 b=some o)) (fun gh=>A.length - gh.1) ((0,G)) (by exact H.sub ⟨O,O,O,O,aB⟩) ?_ ?_
 ·exact yE
 clear H;rintro ⟨k,g⟩ a w hI H;dsimp only at hI H;obtain ⟨hk,hsame,hgm⟩:=hI;dsimp only [lca,bD] at H;refine kP H (SR fun _ K7=>Rc O (Kz K7 (SQ fun _ K8=>Cd O ?_ ?_))) <;> clear H K7
 ·intro eD a H
  try have lJ:=dT eD
  have hk2:k < A.length:=by omega
  have hk3:k < B.length:=by omega
  obtain ⟨b1,o1,cs1,rfl,Nq,Bv,hr1⟩:=hg k A[k].dat (by simp [hk2]);obtain rfl:=Zg hr1;obtain ⟨b2,o2,cs2,rfl,Nr,hrow2,hr2⟩:=hh k B[k].dat (by simp [hk3]);obtain rfl:=Zg hr2;refine kP H (Kc K8 (SQ fun _ K9=>SB (SR fun _ aT=>Rm O (au aT O (SQ fun _ bJ=>?_)))));clear H K8 aT;intro a H;refine dI hmx [[],[],[0,1],[0,1,2],[],[],[4,5],[4,5,6],ra 0 8] [] Z [_,_,_,.agg A[k].cells.toArray,_,_,_,.agg B[k].cells.toArray,.bool (!decide (A[k]=B[k]))] H (aC (Z0 O (Rm O)) (Z0 O (Rm O)) (Z2 0 16 1 17 O (Ri rO qd O O)) ?_ (aC (Z0 O (Rm O)) (Z0 O (Rm O)) (Z2 4 20 5 21 O (Ri rO qd O O)) ?_ (bK ?_ dG))) ?_
  ·refine gX 2 18 O O fun _ a w G1 hG HT H fin=>?_;refine bq qd (cs:=A[k].cells) H wn O O (fun j v hj=>H.hp.aI (aK hG (aK hgm (Bv j v hj)))) O ?_;exact iX
  ·refine gX 6 22 O O fun _ a w G1 hG HT H fin=>?_;refine bq qd (cs:=B[k].cells) H wn O O (fun j v hj=>H.hp.aI (aK hG (aK hgm (hrow2 j v hj)))) O ?_;exact iX
  ·refine eU 3 19 7 23 O O fun _ a w G1 hG HT H fin=>?_;refine ZB (.inr O) asy H wn O O O O ?_;clear H;intro a H;exact fin H iJ (iq (ayE A[k] B[k]))
  clear H;intro a w G pU H hv;have H:=H.aQ (hv 8 24 O O) O;clear hv;refine aF ⟨O,?_⟩;refine bJ _ _ ?_;clear bJ;refine jX H O ?_ ?_
  ·intro dU
   exact kP H (SR fun _ bO=>au bO O (LR results119 O fun H=>H.rt (iq (oP fun e=>absurd dU (by subst e;simp)).symm)))
  exact Vo
 intro eD a H
 try have lJ:=dF eD
 refine dX ?_;refine K5 _ _ ?_;clear K5;exact kP H (SR fun _ bU=>au bU O (LR results119 O fun H=>H.rt (iq (lT (by rw [lU V,lU V] at hsame;exact hsame)).symm)))
theorem asi (G:GH) (w0:World) (hG:Hold G w0) (A B:List ku) (v u:ah) (hv:av G (.sl 2 (A.map ku.dat)) v) (hu:av G (.sl 2 (B.map ku.dat)) u) :
  Calls prog 120 #[v,u] w0 (bG w0 G fun r G'=>r=.bool (decide (A=B))):=by
 obtain ⟨vA,vc,rfl,hc1,hc2,hg⟩:=hv.slice;obtain ⟨uA,uc,rfl,hd1,hd2,hh⟩:=hu.slice;have hml:maxLen=9223372036854775807:=rfl;(iterate 2 rw [bR] at *);refine eN [(0,_),(1,_)] func120 O ntmps120 O O hG ?_;intro a H;refine kP H (SR fun _ K1=>au K1 O (SQ fun _ K2=>SR fun _ K3=>Rm O (Rl rP O (Rm O (Rl rP O (Rc O (Kz K3 (Cd O ?_ ?_)))))))) <;> clear H K1 K3
 ·intro h10 a H
  try have kN:=dT h10
  exact kP H (SR fun _ K4=>au K4 O (LR results120 O fun H=>H.rt (iq (oP fun e=>absurd (dh List.length e) V).symm)))
 intro h10 a H
 try have kN:=dF h10
 refine kP H (Kc K2 (SQ fun _ K5=>SR fun _ K6=>Rm O (Rl rP O (Rm O (Kz K6 (SB ?_))))));clear H K2 K6;intro a H;skip;refine eO (ι:=Nat × GH) (Tc:=[(0,_),(1,_),(12,_)]) (Lc:=[]) (fun gh=>[(13,vi gh.1)]) (fun gh=>[]) (fun gh=>gh.2) (fun gh=>gh.1<=A.length∧A.take gh.1=B.take gh.1∧(∀ b o,G b=some o->gh.2 b=some o)) (fun gh=>A.length - gh.1) ((0,G)) (by exact H.sub ⟨O,O,O,O,aB⟩) ?_ ?_
 ·exact yE
 clear H;rintro ⟨k,g⟩ a w hI H;dsimp only at hI H;obtain ⟨hk,hsame,hgm⟩:=hI;dsimp only [lca,bD] at H;refine kP H (SR fun _ K7=>Rc O (Kz K7 (SQ fun _ K8=>Cd O ?_ ?_))) <;> clear H K7
 ·intro eD a H
  try have lJ:=dT eD
  have hk2:k < A.length:=by omega
  have hk3:k < B.length:=by omega
  obtain ⟨b1,o1,cs1,rfl,Nq,Bv,hr1⟩:=hg k A[k].dat (by simp [hk2]);obtain rfl:=V4 hr1;obtain ⟨b2,o2,cs2,rfl,Nr,hrow2,hr2⟩:=hh k B[k].dat (by simp [hk3]);obtain rfl:=V4 hr2;refine kP H (Kc K8 (SQ fun _ K9=>SB (SR fun _ aT=>Rm O (au aT O (SQ fun _ bJ=>?_)))));clear H K8 aT;intro a H;refine dI hmx [[],[],[0,1],[0,1,2],[],[],[4,5],[4,5,6],ra 0 8] [] Z [_,_,_,.agg A[k].cells.toArray,_,_,_,.agg B[k].cells.toArray,.bool (!decide (A[k]=B[k]))] H (aC (Z0 O (Rm O)) (Z0 O (Rm O)) (Z2 0 16 1 17 O (Ri rP uP O O)) ?_ (aC (Z0 O (Rm O)) (Z0 O (Rm O)) (Z2 4 20 5 21 O (Ri rP uP O O)) ?_ (bK ?_ dG))) ?_
  ·refine gX 2 18 O O fun _ a w G1 hG HT H fin=>?_;refine bq uP (cs:=A[k].cells) H wn O O (fun j v hj=>H.hp.aI (aK hG (aK hgm (Bv j v hj)))) O ?_;exact iX
  ·refine gX 6 22 O O fun _ a w G1 hG HT H fin=>?_;refine bq uP (cs:=B[k].cells) H wn O O (fun j v hj=>H.hp.aI (aK hG (aK hgm (hrow2 j v hj)))) O ?_;exact iX
  ·refine eU 3 19 7 23 O O fun _ a w G1 hG HT H fin=>?_;refine ZB (.inr O) asA H wn O O O O ?_;clear H;intro a H;exact fin H iJ (iq (ayC A[k] B[k]))
  clear H;intro a w G pU H hv;have H:=H.aQ (hv 8 24 O O) O;clear hv;refine aF ⟨O,?_⟩;refine bJ _ _ ?_;clear bJ;refine jX H O ?_ ?_
  ·intro dU
   exact kP H (SR fun _ bO=>au bO O (LR results120 O fun H=>H.rt (iq (oP fun e=>absurd dU (by subst e;simp)).symm)))
  exact Vo
 intro eD a H
 try have lJ:=dF eD
 refine dX ?_;refine K5 _ _ ?_;clear K5;exact kP H (SR fun _ bU=>au bU O (LR results120 O fun H=>H.rt (iq (lT (by rw [lU V,lU V] at hsame;exact hsame)).symm)))
theorem asr (G:GH) (w0:World) (hG:Hold G w0) (A B:List jK) (v u:ah) (hv:av G (.sl 4 (A.map jK.dat)) v) (hu:av G (.sl 4 (B.map jK.dat)) u) :
  Calls prog 121 #[v,u] w0 (bG w0 G fun r G'=>r=.bool (decide (A=B))):=by
 obtain ⟨vA,vc,rfl,hc1,hc2,hg⟩:=hv.slice;obtain ⟨uA,uc,rfl,hd1,hd2,hh⟩:=hu.slice;have hml:maxLen=9223372036854775807:=rfl;(iterate 2 rw [bR] at *);refine eN [(0,_),(1,_)] func121 O ntmps121 O O hG ?_;intro a H;refine kP H (SR fun _ K1=>au K1 O (SQ fun _ K2=>SR fun _ K3=>Rm O (Rl vZ O (Rm O (Rl vZ O (Rc O (Kz K3 (Cd O ?_ ?_)))))))) <;> clear H K1 K3
 ·intro h10 a H
  try have kN:=dT h10
  exact kP H (SR fun _ K4=>au K4 O (LR results121 O fun H=>H.rt (iq (oP fun e=>absurd (dh List.length e) V).symm)))
 intro h10 a H
 try have kN:=dF h10
 refine kP H (Kc K2 (SQ fun _ K5=>SR fun _ K6=>Rm O (Rl vZ O (Rm O (Kz K6 (SB ?_))))));clear H K2 K6;intro a H;skip;refine eO (ι:=Nat × GH) (Tc:=[(0,_),(1,_),(12,_)]) (Lc:=[]) (fun gh=>[(13,vi gh.1)]) (fun gh=>[]) (fun gh=>gh.2) (fun gh=>gh.1<=A.length∧A.take gh.1=B.take gh.1∧(∀ b o,G b=some o->gh.2 b=some o)) (fun gh=>A.length - gh.1) ((0,G)) (by exact H.sub ⟨O,O,O,O,aB⟩) ?_ ?_
 ·exact yE
 clear H;rintro ⟨k,g⟩ a w hI H;dsimp only at hI H;obtain ⟨hk,hsame,hgm⟩:=hI;dsimp only [lca,bD] at H;refine kP H (SR fun _ K7=>Rc O (Kz K7 (SQ fun _ K8=>Cd O ?_ ?_))) <;> clear H K7
 ·intro eD a H
  try have lJ:=dT eD
  have hk2:k < A.length:=by omega
  have hk3:k < B.length:=by omega
  obtain ⟨b1,o1,cs1,rfl,Nq,Bv,hr1⟩:=hg k A[k].dat (by simp [hk2]);obtain rfl:=Yx hr1;obtain ⟨b2,o2,cs2,rfl,Nr,hrow2,hr2⟩:=hh k B[k].dat (by simp [hk3]);obtain rfl:=Yx hr2;refine kP H (Kc K8 (SQ fun _ K9=>SB (SR fun _ aT=>Rm O (au aT O (SQ fun _ bJ=>?_)))));clear H K8 aT;intro a H;refine dI hmx [[],[],[0,1],[0,1,2],[],[],[4,5],[4,5,6],ra 0 8] [] Z [_,_,_,.agg A[k].cells.toArray,_,_,_,.agg B[k].cells.toArray,.bool (!decide (A[k]=B[k]))] H (aC (Z0 O (Rm O)) (Z0 O (Rm O)) (Z2 0 16 1 17 O (Ri vZ uQ O O)) ?_ (aC (Z0 O (Rm O)) (Z0 O (Rm O)) (Z2 4 20 5 21 O (Ri vZ uQ O O)) ?_ (bK ?_ dG))) ?_
  ·refine gX 2 18 O O fun _ a w G1 hG HT H fin=>?_;refine bq uQ (cs:=A[k].cells) H wn O O (fun j v hj=>H.hp.aI (aK hG (aK hgm (Bv j v hj)))) O ?_;exact iX
  ·refine gX 6 22 O O fun _ a w G1 hG HT H fin=>?_;refine bq uQ (cs:=B[k].cells) H wn O O (fun j v hj=>H.hp.aI (aK hG (aK hgm (hrow2 j v hj)))) O ?_;exact iX
  ·refine eU 3 19 7 23 O O fun _ a w G1 hG HT H fin=>?_;refine ZB (.inr O) asB H wn O O O O ?_;clear H;intro a H;exact fin H iJ (iq (ayD A[k] B[k]))
  clear H;intro a w G pU H hv;have H:=H.aQ (hv 8 24 O O) O;clear hv;refine aF ⟨O,?_⟩;refine bJ _ _ ?_;clear bJ;refine jX H O ?_ ?_
  ·intro dU
   exact kP H (SR fun _ bO=>au bO O (LR results121 O fun H=>H.rt (iq (oP fun e=>absurd dU (by subst e;simp)).symm)))
  exact Vo
 intro eD a H
 try have lJ:=dF eD
 refine dX ?_;refine K5 _ _ ?_;clear K5;exact kP H (SR fun _ bU=>au bU O (LR results121 O fun H=>H.rt (iq (lT (by rw [lU V,lU V] at hsame;exact hsame)).symm)))
theorem fH.eq_iff (a b:fH):(((a.props=b.props∧a.marks.ins=b.marks.ins)∧a.marks.move=b.marks.move)∧a.marks.dJ=b.marks.dJ)∧a.marks.layers=b.marks.layers↔a=b:=by
 obtain ⟨p,i,m,d,l⟩:=a;obtain ⟨p2,i2,m2,d2,l2⟩:=b
 simp [and_assoc]
instance:DecidableEq fH:=fun a b=>decidable_of_iff _ (fH.eq_iff a b)
abbrev vJ (h:fH) (p d l:ah):ah:=.agg #[p,vi h.marks.ins,vi h.marks.move,d,l]
theorem M5 (G:GH) (w0:World) (hG:Hold G w0) (x y:fH) (p d l p2 d2 l2:ah) (hx:jI G x p d l) (hy:jI G y p2 d2 l2) :
  Calls prog 47 #[vJ x p d l,vJ y p2 d2 l2] w0 (bG w0 G fun r G'=>r=.bool (decide (x=y))):=by
 obtain ⟨pA,pc,rfl,-,-,-⟩:=hx.props.slice;obtain ⟨dA,dc,rfl,-,-,-⟩:=hx.dJ.slice;obtain ⟨lA,lc,rfl,-,-,-⟩:=hx.layers.slice;obtain ⟨KW,pc2,rfl,-,-,-⟩:=hy.props.slice;obtain ⟨JG,JI,rfl,-,-,-⟩:=hy.dJ.slice;obtain ⟨lA2,lc2,rfl,-,-,-⟩:=hy.layers.slice;have he:=fH.eq_iff x y;refine eN [(0,_),(1,_)] func47 O ntmps47 O O hG ?_;intro a H;refine dH (fun _ K1=>?_);refine eB (cs:=[_,_,_,_,_]) H wn O O O ?_;clear H;intro b2 a w hb2 H;refine eB (cs:=[_,_,_,_,_]) H wn O O O ?_;clear H;intro b3 a w hb3 H;refine kH H (au K1 O (SR fun _ K2=>aU GZ BS 1 O O (aU GZ BS 0 O O ?_)));clear H K1;intro a H;refine s_call apT H wn O (asu _ _ H.ro x.props y.props _ _ hx.props hy.props) O ?_;clear H;rintro v9 G9 a w rfl yY H;refine kH H (Rm O (Sp 10 O ?_ ?_)) <;> clear H
 ·intro h10 a H
  try have kN:=dT h10
  refine kH H (YF wI h10 O (YF yQ h10 O (YO aD 1 h10 O (YF wI h10 O (YF yQ h10 O (YO aD 0 h10 O (YC h10 O (Pt h10 O (Rm O (Sp 19 O ?_ ?_)))))))))) <;> clear H
  ·intro h19 a H
   try have wS:=dT h19
   refine kH H (YF wI h19 O (YF ET h19 O (YO aD 1 h19 O (YF wI h19 O (YF ET h19 O (YO aD 0 h19 O (YC h19 O (Pt h19 O (Rm O (Sp 28 O ?_ ?_)))))))))) <;> clear H
   ·intro eY a H
    try have p28:=dT eY
    refine kH H (YF wI eY O (YF yR eY O (YO zC 1 eY O (YF wI eY O (YF yR eY O (YO zC 0 eY O ?_))))));clear H;intro a H;refine s_call apU H (wg H O O eY) O (asi _ _ H.ro x.marks.dJ y.marks.dJ _ _ (hx.dJ.mono yY) (hy.dJ.mono yY)) O ?_;clear H;rintro v35 G35 a w rfl ahb H;refine kH H (Pt eY O (Rm O (Sp 37 O ?_ ?_))) <;> clear H
    ·intro h37 a H
     try have p37:=dT h37
     refine kH H (YF wI h37 O (YF EU h37 O (YO FL 1 h37 O (YF wI h37 O (YF EU h37 O (YO FL 0 h37 O ?_))))));clear H;intro a H;refine s_call apV H (wg H O O h37) O (asr _ _ H.ro x.marks.layers y.marks.layers _ _ ((hx.layers.mono yY).mono ahb) ((hy.layers.mono yY).mono ahb)) O ?_;clear H;rintro v44 G44 a w rfl aDO H;exact kH H (Pt h37 O (au K2 O (LR results47 O fun H=>H.rt (iq (by simp_all)))))
    intro h37 a H
    try have p37:=dF h37
    exact kH H (bg h37 O (aR h37 O (aR h37 O (Pf h37 O (au K2 O (LR results47 O fun H=>H.rt (iq (by simp_all))))))))
   intro eY a H
   try have p28:=dF eY
   exact kH H (bg eY O (aR eY O (aR eY O (Pf eY O (Rm O (bg O O (aR O O (aR O O (Pf O O (au K2 O (LR results47 O fun H=>H.rt (iq (by simp_all)))))))))))))
  intro h19 a H
  try have wS:=dF h19
  exact kH H (bg h19 O (aR h19 O (aR h19 O (Pf h19 O (Rm O (bg O O (aR O O (aR O O (Pf O O (Rm O (bg O O (aR O O (aR O O (Pf O O (au K2 O (LR results47 O fun H=>H.rt (iq (by simp_all))))))))))))))))))
 intro h10 a H
 try have kN:=dF h10
 exact kH H (bg h10 O (aR h10 O (aR h10 O (Pf h10 O (Rm O (bg O O (aR O O (aR O O (Pf O O (Rm O (bg O O (aR O O (aR O O (Pf O O (Rm O (bg O O (aR O O (aR O O (Pf O O (au K2 O (LR results47 O fun H=>H.rt (iq (by simp_all)))))))))))))))))))))))
section
section
variable {P:Program} {N:Nat} {D:List Deferred} {w0 w w':World} {F:Nat->Prop} {G0 G G':GH} {L L' Li Lo:OL} {T:List (Nat × ah)} {a a':Act} {Q:Exit->Act->World->Prop}
theorem St.cast (h:St N D w0 F G0 G L T a w) (e:L=L'):St N D w0 F G0 G L' T a w:=e ▸ h
theorem St.assoc {A B C:OL} (h:St N D w0 F G0 G ((A++B)++C) T a w):St N D w0 F G0 G (A++(B++C)) T a w:=h.cast (gY _ _ _)
theorem St.un {A B C:OL} (h:St N D w0 F G0 G (A++(B++C)) T a w):St N D w0 F G0 G ((A++B)++C) T a w:=h.cast (gY _ _ _).symm
theorem St.KR {A B:OL} (h:St N D w0 F G0 G (A++B) T a w):St N D w0 F G0 G (A++(B++[])) T a w:=h.cast (by rw [jV])
theorem VN {ι κ:Type} {Lc:OL} {Ba:Operand} {ps:List Nat} {assign body:Code} {gf:FuncId} {caps:List ah} {xs:List AP} {Gi:GH}
  (Lv:Nat->ι->OL) (Lt:Nat->ι->OL) (inv:Nat->ι->GH->Prop) (cx:κ->Code) (Lx Gj:κ->OL) (BD:κ->GH->Prop) (i0:ι)
  (H:St N D w0 F G0 G (Lc++Lv 0 i0++Lt 0 i0) T a w) (hg:ev T Ba=some (.func (.func gf) #[] caps.toArray)) (en:∀ args w,(callFunc gf args).run P w=.ok (.enter gf args) w) (hit:Iter P Gi (.func (.func gf) #[] caps.toArray) xs) (hGi:∀ b o,Gi b=some o->G b=some o)
  (hps:ps.all (Nat.blt · N)=true) (hlen:∀ k args g,yg xs k args g->args.length=ps.length) (hinv:∀ k i (G G':GH),(∀ b o,G b=some o->G' b=some o)->inv k i G->inv k i G') (XG:∀ x (G G':GH),(∀ b o,G b=some o->G' b=some o)->BD x G->BD x G') (h0:inv 0 i0 G)
  (round:∀ (l:Nat) (Em AQ:Obj) (bk:OL) (k:Nat) (args:List ah) (i:ι) (G1:GH) (w1:World) (F1:Nat->Prop) (B1:Code->Exit->Act->World->Prop) (a1:Act),yg xs k args G1->(∀ b o,G b=some o->G1 b=some o)->inv k i G1 ->
   (∀ T' G2 L2 a2 w2 c,St N [] w1 F1 G1 G2 ((l,Em) :: L2) T' a2 w2->(∀ w3,St N [] w1 F1 G1 G2 ((l,AQ) :: L2) T' a2 w3->WP (some l) P c (B1 c) a2 w3)->Exit.then (fun a2 w2=>∃ w3,(Instr.beginRound l).run P w2=.ok () w3∧c.wpIn (FW (some l)) 0 P (B1 c) a2 w3) (fun _ _ _=>False) .normal a2 w2) ->
   (∀ i' T' G2 a2 w2 c,St N [] w1 F1 G1 G2 ((l,AQ) :: (Lc++Lv (k+1) i'++(bk++Lt (k+1) i'))) T' a2 w2->inv (k+1) i' G2->B1 c .normal a2 w2) ->
   (∀ x T' G2 a2 w2 c,St N [] w1 F1 G1 G2 ((l,AQ) :: (Lc++Lx x++(bk++Gj x))) T' a2 w2->BD x G2->(cx x=.ret->B1 c .ret a2 w2)∧∀ n,cx x=.exit n->B1 c (.exit n) a2 w2) ->
   St N [] w1 F1 G1 G1 ((l,Em) :: (Lc++Lv k i++(bk++Lt k i))) (zM ps args T) a1 w1 ->
   WP (some l) P assign (Exit.then (fun a2 w2=>∃ w3,(Instr.beginRound l).run P w2=.ok () w3∧body.wpIn (FW (some l)) 0 P (B1 body) a2 w3) (fun _ _ _=>False)) a1 w1)
  (hdone:∀ Dk i G1 a1 w1,(∀ b o,G b=some o->G1 b=some o)->inv xs.length i G1->St N ({ target:=.collected Dk,args:=#[] } :: D) w0 F G0 G1 ((Dk,.deferred (some [])) :: (Lc++Lv xs.length i++Lt xs.length i)) T a1 w1->Q .normal a1 w1)
  (hstop:∀ Dk x G1 a1 w1,(∀ b o,G b=some o->G1 b=some o)->BD x G1->St N ({ target:=.collected Dk,args:=#[] } :: D) w0 F G0 G1 ((Dk,.deferred (some [])) :: (Lc++Lx x++Gj x)) T a1 w1->WP none P (cx x) Q a1 w1) :
  WP none P (.rangeFunc Ba ps.toArray assign body) Q a w:=by
 refine aod (J:=fun k g L=>∃ i,L=Lc++Lv k i++Lt k i∧inv k i g) (Jx:=fun c g L=>∃ x,c=cx x∧L=Lc++Lx x++Gj x∧BD x g) H hg en hit hGi hps hlen (fun k G G' L hm ⟨i,e,h⟩=>⟨i,e,hinv k i G G' hm h⟩) (fun c G G' L hm ⟨x,e1,e2,h⟩=>⟨x,e1,e2,XG x G G' hm h⟩) ⟨i0,O,h0⟩ ?_ ?_ ?_
 ·rintro l q bk k args G1 L1 w1 a1 hk hm ⟨i,rfl,hi⟩ H1
  have pm:∀ A B:OL,(bk++(A++B)).Perm (A++(bk++B)):=fun A B=>by
   rw [<- gY,<- gY]
   exact List.Perm.append_right B um
  refine round l (q.at .ready none) (q.at .busy none) bk k args i G1 w1 _ (fun _=>roundPost P l _) a1 hk hm hi ?_ ?_ ?_ (H1.perm (List.Perm.cons _ (pm _ _)))
  ·intro T' G2 L2 a2 w2 c H2 h
   exact adH H2 h
  ·intro i' T' G2 a2 w2 c H2 h2
   exact KY none (H2.perm (List.Perm.cons _ (pm _ _).symm)) ⟨_,O,i',O,h2⟩
  ·intro x T' G2 a2 w2 c H2 h2
   have H3:=H2.perm (List.Perm.cons _ (pm _ _).symm)
   refine ⟨fun e=>?_,fun n e=>?_⟩
   ·exact KY (some .ret) H3 ⟨_,_,O,x,e.symm,O,h2⟩
   ·exact KY (some (.exit n)) H3 ⟨_,_,O,x,e.symm,O,h2⟩
 ·rintro Dk G1 L1 a1 w1 hm ⟨i,rfl,hi⟩ H1
  exact hdone Dk i G1 a1 w1 hm hi H1
 ·rintro Dk c G1 L1 a1 w1 hm ⟨x,rfl,rfl,hx⟩ H1
  exact hstop Dk x G1 a1 w1 hm hx H1
def YK (ds:List Nat):List Deferred:=ds.map fun b=>{ target:=.collected b,args:=#[] }
def Iw (ds:List Nat):OL:=ds.map fun b=>(b,.deferred (some []))
theorem aoc {r:Option Nat} {ι:Type} {c:Code} {Tc:List (Nat × ah)} {Lc:List (Nat × Obj)} (Dv:ι->List Deferred) (Tv:ι->List (Nat × ah)) (Lv:ι->List (Nat × Obj)) (Gv:ι->GH) (Pr:ι->Prop) (m:ι->Nat) (i0:ι)
  (H:St N (Dv i0) w0 F G0 (Gv i0) (Lc++Lv i0) (Tv i0++Tc) a w) (hP:Pr i0)
  (round:∀ i a w,Pr i->St N (Dv i) w0 F G0 (Gv i) (Lc++Lv i) (Tv i++Tc) a w ->
   WP r P c (Exit.then (fun a' w'=>∃ i',(St N (Dv i') w0 F G0 (Gv i') (Lc++Lv i') (Tv i'++Tc) a' w'∧Pr i')∧m i' < m i) Q) a w):WP r P (.loop c) Q a w :=
 adJ (fun i a w=>St N (Dv i) w0 F G0 (Gv i) (Lc++Lv i) (Tv i++Tc) a w∧Pr i) m i0 ⟨H,hP⟩ fun i a w hI=>round i a w hI.2 hI.1
theorem axZ {ι:Type} {Dv:ι->List Deferred} {Tc:List (Nat × ah)} {Lc:List (Nat × Obj)} {Tv:ι->List (Nat × ah)} {Lv:ι->List (Nat × Obj)} {Gv:ι->GH} {Pr:ι->Prop} {m:ι->Nat} {i:ι} (i':ι)
  (H:St N (Dv i') w0 F G0 (Gv i') (Lc++Lv i') (Tv i'++Tc) a w) (hP:Pr i') (hm:m i' < m i) :
  ∃ i',(St N (Dv i') w0 F G0 (Gv i') (Lc++Lv i') (Tv i'++Tc) a w∧Pr i')∧m i' < m i:=⟨i',⟨H,hP⟩,hm⟩
theorem Yy {fn:Func} {R:Ending->World->Prop} {Lh Lt:OL}:∀ (ds:List Nat) {a:Act} {w:World},St N (YK ds) w0 F G0 G (Lh++(Iw ds++Lt)) T a w ->
  (∀ a' w',St N [] w0 F G0 G (Lh++Lt) T a' w'->bodyPostM (FW none) 0 P fn R .ret a' w')->bodyPostM (FW none) 0 P fn R .ret a w∧bodyPostM (FW none) 0 P fn R .normal a w
 | [],a,w,H,k=>⟨k a w H,k a w H⟩
 | b :: ds,a,w,H,k=>by
  refine KM (b:=b) (D:=YK ds) H Lh.length (by rw [qj (fD _),Nat.sub_self];rfl) fun a' w' H'=>?_
  refine (Yy ds (Lh:=Lh) (Lt:=Lt) (H'.cast ?_) k).1
  rw [List.eraseIdx_append_of_length_le (fD _),Nat.sub_self];rfl
end
end
def n1 (x:ak):Nat:=if sN x=0 then eG x else 0
theorem axP (x:ak):sI [x]=n1 x:=by
 simp only [sI,xE,n1,fU,List.all_cons,List.all_nil,Bool.and_true,sW]
 split <;> simp_all
mutual
/-- The positions of a flow and of those within it, from an item on. -/
def FV (flow:Int) (at_:Nat):ak->List (Int × Int)
 | .mk k c i t h f r=>(List.range (n1 (.mk k c i t h f r))).map (fun q=>(flow,((at_+q:Nat):Int)))++((if k=6 then zH i 0 f else [])++wh r)
def zH (flow:Int):Nat->List ak->List (Int × Int)
 | at_,[]=>[(flow,(at_:Int))]
 | at_,x :: l=>FV flow at_ x++zH flow (at_+n1 x) l
def wh:List aM->List (Int × Int)
 | []=>[]
 | r :: l=>FX r++wh l
def FX:aM->List (Int × Int)
 | .mk _ cs=>Ca cs
def Ca:List aN->List (Int × Int)
 | []=>[]
 | c :: l=>FU c++Ca l
def FU:aN->List (Int × Int)
 | .mk i _ f=>zH i 0 f
end
theorem av.len {G:GH} {sz:Nat} {rows:List (List Dat)} {A:Option Addr} {n c:Nat} (h:av G (.sl sz rows) (.slice A n c)):n=rows.length:=h.cells.1
theorem av.at_ {G:GH} {sz:Nat} {rows:List (List Dat)} {A:Option Addr} {n c:Nat} (h:av G (.sl sz rows) (.slice A n c)):∀ k r,rows[k]?=some r->∃ b o cs,A=some ⟨b,o,none⟩∧cs.length=sz∧(∀ j u,cs[j]?=some u->aI G b (o+k*sz+j)=some u)∧aX G r cs:=by
 obtain ⟨A2,c2,e,_,_,hg⟩:=h.slice
 cases e;exact hg
theorem IB {G:GH} {l:List aM} {A:Option Addr} {k:Nat} (hk:k < l.length) (hg:∀ k r,(l.map aM.dat)[k]?=some r->∃ b o cs,A=some ⟨b,o,none⟩∧cs.length=6∧(∀ j u,cs[j]?=some u->aI G b (o+k*6+j)=some u)∧aX G r cs) :
  ∃ b o pA pn pc dA dn dc yA yn yc cA cn cc,A=some ⟨b,o,none⟩∧(∀ j u,[.slice pA pn pc,vi l[k].head.marks.ins,vi l[k].head.marks.move,.slice dA dn dc,.slice yA yn yc,.slice cA cn cc][j]?=some u->aI G b (o+k*6+j)=some u) ∧
   jI G l[k].head (.slice pA pn pc) (.slice dA dn dc) (.slice yA yn yc)∧av G (.sl 7 (l[k].cells.map aN.dat)) (.slice cA cn cc):=by
 obtain ⟨b,o,cs,h1,h2,h3,h4⟩:=hg k l[k].dat (by simp [hk]);obtain ⟨pA,pn,pc,dA,dn,dc,yA,yn,yc,cA,cn,cc,rfl,h5,h6⟩:=h4.row;exact ⟨b,o,pA,pn,pc,dA,dn,dc,yA,yn,yc,cA,cn,cc,h1,h3,h5,h6⟩
theorem JD {G:GH} {l:List aN} {A:Option Addr} {k:Nat} (hk:k < l.length) (hg:∀ k r,(l.map aN.dat)[k]?=some r->∃ b o cs,A=some ⟨b,o,none⟩∧cs.length=7∧(∀ j u,cs[j]?=some u->aI G b (o+k*7+j)=some u)∧aX G r cs) :
  ∃ b o pA pn pc dA dn dc yA yn yc fA fn fc,A=some ⟨b,o,none⟩∧(∀ j u,[vi l[k].id,.slice pA pn pc,vi l[k].head.marks.ins,vi l[k].head.marks.move,.slice dA dn dc,.slice yA yn yc,.slice fA fn fc][j]?=some u->aI G b (o+k*7+j)=some u) ∧
   jI G l[k].head (.slice pA pn pc) (.slice dA dn dc) (.slice yA yn yc)∧av G (.sl 11 (l[k].flow.map ak.dat)) (.slice fA fn fc):=by
 obtain ⟨b,o,cs,h1,h2,h3,h4⟩:=hg k l[k].dat (by simp [hk]);obtain ⟨pA,pn,pc,dA,dn,dc,yA,yn,yc,fA,fn,fc,rfl,h5,h6⟩:=h4.cell;exact ⟨b,o,pA,pn,pc,dA,dn,dc,yA,yn,yc,fA,fn,fc,h1,h3,h5,h6⟩
theorem M0:aW 47:=aY func47 O
theorem Wu:aW 46:=aY func46 O
theorem ars:aW 244:=aY func244 O
theorem DJ:dz prog 128 1 1:=⟨Z⟩
theorem yO:dz prog 128 2 2:=⟨Z⟩
theorem aqC:aW 192:=aY func192 O
theorem apR:aW 117:=aY func117 O
theorem aru:aW 245:=aY func245 O
theorem aqD:aW 193:=aY func193 O
theorem apS:aW 118:=aY func118 O
theorem bytes_beq (p q:ByteArray):((p.toList == q.toList)=true)↔p=q:=by
 rw [ByteArray.toList_eq,ByteArray.toList_eq,beq_iff_eq];exact ⟨fun e=>Go.WideShapes.bytes_inj e,fun e=>by rw [e]⟩
theorem ak.eq_iff (a b:ak):((((((a.kind=b.kind∧a.code=b.code)∧a.id=b.id)∧a.text=b.text)∧a.head=b.head)∧a.flow=b.flow)∧a.rows=b.rows)↔a=b:=by
 cases a;cases b
 simp [ak.kind,ak.code,ak.id,ak.text,ak.head,ak.flow,ak.rows,and_assoc]
theorem aM.eq_iff (a b:aM):(a.head=b.head∧a.cells=b.cells)↔a=b:=by
 cases a;cases b
 simp [aM.head,aM.cells]
theorem aN.eq_iff (a b:aN):((a.id=b.id∧a.head=b.head)∧a.flow=b.flow)↔a=b:=by
 cases a;cases b
 simp [aN.id,aN.head,aN.flow,and_assoc]
def I7 (fv:ah) (G:GH) (d d':List Dat) (p:Prop):Prop:=∀ (G1:GH) (w1:World) (cs cs':List ah),(∀ b o,G b=some o->G1 b=some o)->Hold G1 w1->aX G1 d cs->aX G1 d' cs' ->
 tY prog fv [.agg cs.toArray,.agg cs'.toArray] w1 (bG w1 G1 fun u G'=>∃ b,u=.bool b∧(b=true↔p))
theorem anu {p:Prop} (h:p:=by
 exact ⟨V,by rw [jk hk2,jk hk3,hsame,Kg.1 (by simpa using nX)],fun b o h=>Ny b o (hgm b o h)⟩):p:=h
theorem Vn {p:Prop} (h:p:=by
 intro nX a H
 try have p30:=dF nX
 refine kP H (Kc K9 (SC (Rd O (Rm O ?_))));clear H K9;intro a H;refine aF ?_;refine dS ((k+1,I9)) (by exact (H.dV (Pl:=[_,_]) (dL:=[]) [] Q1 O).sub ⟨O,O,O,O,O,aB⟩) ?_
 (try dsimp only);exact anu):p:=h
theorem asl (G:GH) (w0:World) (hG:Hold G w0) (A B:List ak) (v u fv:ah) (hv:av G (.sl 11 (A.map ak.dat)) v) (hu:av G (.sl 11 (B.map ak.dat)) u) (hf:∀ (i:Nat) (h1:i < A.length) (h2:i < B.length),I7 fv G A[i].dat B[i].dat (A[i]=B[i])) :
  Calls prog 117 #[v,u,fv] w0 (bG w0 G fun r G'=>∃ b,r=.bool b∧(b=true↔A=B)):=by
 obtain ⟨vA,vc,rfl,hc1,hc2,hg⟩:=hv.slice;obtain ⟨uA,uc,rfl,hd1,hd2,hh⟩:=hu.slice;have hml:maxLen=9223372036854775807:=rfl;(iterate 2 rw [bR] at *);refine eN [(0,_),(1,_),(2,_)] func117 O ntmps117 O O hG ?_;intro a H;refine kP H (SR fun _ K1=>au K1 O (SQ fun _ K2=>SR fun _ K3=>Rm O (Rl eH O (Rm O (Rl eH O (Rc O (Kz K3 (Cd O ?_ ?_)))))))) <;> clear H K1 K3
 ·intro eD a H
  try have lJ:=dT eD
  exact kP H (SR fun _ K4=>au K4 O (LR results117 O fun H=>H.rt ⟨false,O,by simp only [yC,false_iff];exact fun e=>absurd (dh List.length e) V⟩))
 intro eD a H
 try have lJ:=dF eD
 refine kP H (Kc K2 (SQ fun _ K5=>SR fun _ K6=>Rm O (Rl eH O (Rm O (Kz K6 (SB ?_))))));clear H K2 K6;intro a H;skip;refine eO (ι:=Nat × GH) (Tc:=[(1,_),(2,_),(15,_),(16,_)]) (Lc:=[]) (fun gh=>[(17,vi gh.1)]) (fun gh=>[]) (fun gh=>gh.2) (fun gh=>gh.1<=A.length∧A.take gh.1=B.take gh.1∧(∀ b o,G b=some o->gh.2 b=some o)) (fun gh=>A.length - gh.1) ((0,G)) (by exact H.sub ⟨O,O,O,O,O,aB⟩) ?_ ?_
 ·exact yE
 clear H;rintro ⟨k,g⟩ a w hI H;dsimp only at hI H;obtain ⟨hk,hsame,hgm⟩:=hI;dsimp only [lca,bD] at H;refine kP H (SR fun _ K7=>Rc O (Kz K7 (SQ fun _ K8=>Cd O ?_ ?_))) <;> clear H K7
 ·intro h18 a H
  try have qw:=dT h18
  have hk2:k < A.length:=by omega
  have hk3:k < B.length:=by omega
  obtain ⟨b1,o1,cs1,rfl,Nq,Bv,hr1⟩:=hg k A[k].dat (by simp [hk2]);obtain ⟨pA,pn,pc,dA,dn,dc,yA,yn,yc,fA,fn,fc,rA,rn,rc,rfl,-⟩:=hr1.item;obtain ⟨b2,o2,cs2,rfl,Nr,hrow2,hr2⟩:=hh k B[k].dat (by simp [hk3]);obtain ⟨KW,Ot,pc2,JG,MV,JI,OO,OQ,OP,GV,He,GX,Zj,SG,Zk,rfl,-⟩:=hr2.item;refine kP H (Kc K8 (SQ fun _ K9=>SB (SR fun _ aT=>Rm O (Ri eH cO O O ?_))));clear H K8;intro a H;refine bq cO (cs:=_) H wn O O (fun j v hj=>H.hp.aI (aK hgm (Bv j v hj))) O ?_;clear H;intro a H;refine dR cO H wn O ?_;clear H;intro b8 a w Ea H;refine kH H (Ra O ?_);clear H;intro a H;refine bM cO 0 (vs:=[_,_,_,_,_,_,_,_,_,_,_]) H wn O ?_;clear H;intro w H;refine aT _ _ ?_;clear aT;refine kP H (SR fun _ bJ=>Rm O (Rm O (Ri eH cO O O ?_)));clear H;intro a H;refine bq cO (cs:=_) H wn O O (fun j v hj=>H.hp.aI (aK hgm (hrow2 j v hj))) O ?_;clear H;intro a H;refine dR cO H wn O ?_;clear H;intro b9 a w uG H;refine bM cO 0 (vs:=[_,_,_,_,_,_,_,_,_,_,_]) H wn O ?_;clear H;intro w H;refine bJ _ _ ?_;clear bJ;refine kP H (SR fun _ bO=>Rm O ?_);clear H;intro a H;refine bq cO (cs:=[_,_,_,_,_,_,_,_,_,_,_]) H wn O O (H.hp.dD 1 O O) O ?_;clear H;intro a H;refine bq cO (cs:=[_,_,_,_,_,_,_,_,_,_,_]) H wn O O (H.hp.dD 0 O O) O ?_;clear H;intro a H;refine oL H wn O O (hf k hk2 hk3 _ _ _ _ hgm H.ro (hr1.mono hgm) (hr2.mono hgm)) O ?_;clear H;rintro v29 I9 a w ⟨b29,rfl,Kg⟩ Ny H;refine kH H (Rn O (Kz bO (Cd O ?_ ?_))) <;> clear H bO
  ·intro nX a H
   exact kP H (SR fun _ bU=>au bU O (LR results117 O fun H=>H.rt ⟨false,O,by simp only [yC,false_iff];rintro rfl;exact absurd (Kg.2 O) (by simpa using nX)⟩))
  exact Vn
 intro h18 a H
 try have qw:=dF h18
 refine dX ?_;refine K5 _ _ ?_;clear K5;exact kP H (SR fun _ bZ=>au bZ O (LR results117 O fun H=>H.rt ⟨true,O,by rw [lU V,lU V] at hsame;simpa using hsame⟩))
theorem asn (G:GH) (w0:World) (hG:Hold G w0) (A B:List aM) (v u fv:ah) (hv:av G (.sl 6 (A.map aM.dat)) v) (hu:av G (.sl 6 (B.map aM.dat)) u) (hf:∀ (i:Nat) (h1:i < A.length) (h2:i < B.length),I7 fv G A[i].dat B[i].dat (A[i]=B[i])) :
  Calls prog 192 #[v,u,fv] w0 (bG w0 G fun r G'=>∃ b,r=.bool b∧(b=true↔A=B)):=by
 obtain ⟨vA,vc,rfl,hc1,hc2,hg⟩:=hv.slice;obtain ⟨uA,uc,rfl,hd1,hd2,hh⟩:=hu.slice;have hml:maxLen=9223372036854775807:=rfl;(iterate 2 rw [bR] at *);refine eN [(0,_),(1,_),(2,_)] func192 O ntmps192 O O hG ?_;intro a H;refine kP H (SR fun _ K1=>au K1 O (SQ fun _ K2=>SR fun _ K3=>Rm O (Rl jS O (Rm O (Rl jS O (Rc O (Kz K3 (Cd O ?_ ?_)))))))) <;> clear H K1 K3
 ·intro eD a H
  try have lJ:=dT eD
  exact kP H (SR fun _ K4=>au K4 O (LR results192 O fun H=>H.rt ⟨false,O,by simp only [yC,false_iff];exact fun e=>absurd (dh List.length e) V⟩))
 intro eD a H
 try have lJ:=dF eD
 refine kP H (Kc K2 (SQ fun _ K5=>SR fun _ K6=>Rm O (Rl jS O (Rm O (Kz K6 (SB ?_))))));clear H K2 K6;intro a H;skip;refine eO (ι:=Nat × GH) (Tc:=[(1,_),(2,_),(15,_),(16,_)]) (Lc:=[]) (fun gh=>[(17,vi gh.1)]) (fun gh=>[]) (fun gh=>gh.2) (fun gh=>gh.1<=A.length∧A.take gh.1=B.take gh.1∧(∀ b o,G b=some o->gh.2 b=some o)) (fun gh=>A.length - gh.1) ((0,G)) (by exact H.sub ⟨O,O,O,O,O,aB⟩) ?_ ?_
 ·exact yE
 clear H;rintro ⟨k,g⟩ a w hI H;dsimp only at hI H;obtain ⟨hk,hsame,hgm⟩:=hI;dsimp only [lca,bD] at H;refine kP H (SR fun _ K7=>Rc O (Kz K7 (SQ fun _ K8=>Cd O ?_ ?_))) <;> clear H K7
 ·intro h18 a H
  try have qw:=dT h18
  have hk2:k < A.length:=by omega
  have hk3:k < B.length:=by omega
  obtain ⟨b1,o1,cs1,rfl,Nq,Bv,hr1⟩:=hg k A[k].dat (by simp [hk2]);obtain ⟨pA,pn,pc,dA,dn,dc,yA,yn,yc,fA,fn,fc,rfl,-⟩:=hr1.row;obtain ⟨b2,o2,cs2,rfl,Nr,hrow2,hr2⟩:=hh k B[k].dat (by simp [hk3]);obtain ⟨KW,Ot,pc2,JG,MV,JI,OO,OQ,OP,GV,He,GX,rfl,-⟩:=hr2.row;refine kP H (Kc K8 (SQ fun _ K9=>SB (SR fun _ aT=>Rm O (Ri jS ig O O ?_))));clear H K8;intro a H;refine bq ig (cs:=_) H wn O O (fun j v hj=>H.hp.aI (aK hgm (Bv j v hj))) O ?_;clear H;intro a H;refine dR ig H wn O ?_;clear H;intro b8 a w Ea H;refine kH H (Ra O ?_);clear H;intro a H;refine bM ig 0 (vs:=[_,_,_,_,_,_]) H wn O ?_;clear H;intro w H;refine aT _ _ ?_;clear aT;refine kP H (SR fun _ bJ=>Rm O (Rm O (Ri jS ig O O ?_)));clear H;intro a H;refine bq ig (cs:=_) H wn O O (fun j v hj=>H.hp.aI (aK hgm (hrow2 j v hj))) O ?_;clear H;intro a H;refine dR ig H wn O ?_;clear H;intro b9 a w uG H;refine bM ig 0 (vs:=[_,_,_,_,_,_]) H wn O ?_;clear H;intro w H;refine bJ _ _ ?_;clear bJ;refine kP H (SR fun _ bO=>Rm O ?_);clear H;intro a H;refine bq ig (cs:=[_,_,_,_,_,_]) H wn O O (H.hp.dD 1 O O) O ?_;clear H;intro a H;refine bq ig (cs:=[_,_,_,_,_,_]) H wn O O (H.hp.dD 0 O O) O ?_;clear H;intro a H;refine oL H wn O O (hf k hk2 hk3 _ _ _ _ hgm H.ro (hr1.mono hgm) (hr2.mono hgm)) O ?_;clear H;rintro v29 I9 a w ⟨b29,rfl,Kg⟩ Ny H;refine kH H (Rn O (Kz bO (Cd O ?_ ?_))) <;> clear H bO
  ·intro nX a H
   exact kP H (SR fun _ bU=>au bU O (LR results192 O fun H=>H.rt ⟨false,O,by simp only [yC,false_iff];rintro rfl;exact absurd (Kg.2 O) (by simpa using nX)⟩))
  exact Vn
 intro h18 a H
 try have qw:=dF h18
 refine dX ?_;refine K5 _ _ ?_;clear K5;exact kP H (SR fun _ bZ=>au bZ O (LR results192 O fun H=>H.rt ⟨true,O,by rw [lU V,lU V] at hsame;simpa using hsame⟩))
theorem asj (G:GH) (w0:World) (hG:Hold G w0) (A B:List aN) (v u fv:ah) (hv:av G (.sl 7 (A.map aN.dat)) v) (hu:av G (.sl 7 (B.map aN.dat)) u) (hf:∀ (i:Nat) (h1:i < A.length) (h2:i < B.length),I7 fv G A[i].dat B[i].dat (A[i]=B[i])) :
  Calls prog 244 #[v,u,fv] w0 (bG w0 G fun r G'=>∃ b,r=.bool b∧(b=true↔A=B)):=by
 obtain ⟨vA,vc,rfl,hc1,hc2,hg⟩:=hv.slice;obtain ⟨uA,uc,rfl,hd1,hd2,hh⟩:=hu.slice;have hml:maxLen=9223372036854775807:=rfl;(iterate 2 rw [bR] at *);refine eN [(0,_),(1,_),(2,_)] func244 O ntmps244 O O hG ?_;intro a H;refine kP H (SR fun _ K1=>au K1 O (SQ fun _ K2=>SR fun _ K3=>Rm O (Rl kQ O (Rm O (Rl kQ O (Rc O (Kz K3 (Cd O ?_ ?_)))))))) <;> clear H K1 K3
 ·intro eD a H
  try have lJ:=dT eD
  exact kP H (SR fun _ K4=>au K4 O (LR results244 O fun H=>H.rt ⟨false,O,by simp only [yC,false_iff];exact fun e=>absurd (dh List.length e) V⟩))
 intro eD a H
 try have lJ:=dF eD
 refine kP H (Kc K2 (SQ fun _ K5=>SR fun _ K6=>Rm O (Rl kQ O (Rm O (Kz K6 (SB ?_))))));clear H K2 K6;intro a H;skip;refine eO (ι:=Nat × GH) (Tc:=[(1,_),(2,_),(15,_),(16,_)]) (Lc:=[]) (fun gh=>[(17,vi gh.1)]) (fun gh=>[]) (fun gh=>gh.2) (fun gh=>gh.1<=A.length∧A.take gh.1=B.take gh.1∧(∀ b o,G b=some o->gh.2 b=some o)) (fun gh=>A.length - gh.1) ((0,G)) (by exact H.sub ⟨O,O,O,O,O,aB⟩) ?_ ?_
 ·exact yE
 clear H;rintro ⟨k,g⟩ a w hI H;dsimp only at hI H;obtain ⟨hk,hsame,hgm⟩:=hI;dsimp only [lca,bD] at H;refine kP H (SR fun _ K7=>Rc O (Kz K7 (SQ fun _ K8=>Cd O ?_ ?_))) <;> clear H K7
 ·intro h18 a H
  try have qw:=dT h18
  have hk2:k < A.length:=by omega
  have hk3:k < B.length:=by omega
  obtain ⟨b1,o1,cs1,rfl,Nq,Bv,hr1⟩:=hg k A[k].dat (by simp [hk2]);obtain ⟨pA,pn,pc,dA,dn,dc,yA,yn,yc,fA,fn,fc,rfl,-⟩:=hr1.cell;obtain ⟨b2,o2,cs2,rfl,Nr,hrow2,hr2⟩:=hh k B[k].dat (by simp [hk3]);obtain ⟨KW,Ot,pc2,JG,MV,JI,OO,OQ,OP,GV,He,GX,rfl,-⟩:=hr2.cell;refine kP H (Kc K8 (SQ fun _ K9=>SB (SR fun _ aT=>Rm O (Ri kQ iN O O ?_))));clear H K8;intro a H;refine bq iN (cs:=_) H wn O O (fun j v hj=>H.hp.aI (aK hgm (Bv j v hj))) O ?_;clear H;intro a H;refine dR iN H wn O ?_;clear H;intro b8 a w Ea H;refine kH H (Ra O ?_);clear H;intro a H;refine bM iN 0 (vs:=[_,_,_,_,_,_,_]) H wn O ?_;clear H;intro w H;refine aT _ _ ?_;clear aT;refine kP H (SR fun _ bJ=>Rm O (Rm O (Ri kQ iN O O ?_)));clear H;intro a H;refine bq iN (cs:=_) H wn O O (fun j v hj=>H.hp.aI (aK hgm (hrow2 j v hj))) O ?_;clear H;intro a H;refine dR iN H wn O ?_;clear H;intro b9 a w uG H;refine bM iN 0 (vs:=[_,_,_,_,_,_,_]) H wn O ?_;clear H;intro w H;refine bJ _ _ ?_;clear bJ;refine kP H (SR fun _ bO=>Rm O ?_);clear H;intro a H;refine bq iN (cs:=[_,_,_,_,_,_,_]) H wn O O (H.hp.dD 1 O O) O ?_;clear H;intro a H;refine bq iN (cs:=[_,_,_,_,_,_,_]) H wn O O (H.hp.dD 0 O O) O ?_;clear H;intro a H;refine oL H wn O O (hf k hk2 hk3 _ _ _ _ hgm H.ro (hr1.mono hgm) (hr2.mono hgm)) O ?_;clear H;rintro v29 I9 a w ⟨b29,rfl,Kg⟩ Ny H;refine kH H (Rn O (Kz bO (Cd O ?_ ?_))) <;> clear H bO
  ·intro nX a H
   exact kP H (SR fun _ bU=>au bU O (LR results244 O fun H=>H.rt ⟨false,O,by simp only [yC,false_iff];rintro rfl;exact absurd (Kg.2 O) (by simpa using nX)⟩))
  exact Vn
 intro h18 a H
 try have qw:=dF h18
 refine dX ?_;refine K5 _ _ ?_;clear K5;exact kP H (SR fun _ bZ=>au bZ O (LR results244 O fun H=>H.rt ⟨true,O,by rw [lU V,lU V] at hsame;simpa using hsame⟩))
def F7 (n:Nat):Prop:=∀ (G:GH) (w0:World),Hold G w0->∀ (A B:List ak) (v u:ah),av G (.sl 11 (A.map ak.dat)) v->av G (.sl 11 (B.map ak.dat)) u->aP A < n ->
 Calls prog 46 #[v,u] w0 (bG w0 G fun r G'=>∃ b,r=.bool b∧(b=true↔A=B))
theorem ash {n:Nat} (ih:F7 n) (G:GH) (x y:aN) (hz:aP x.flow < n):I7 (.func (.func 245) #[] #[]) G x.dat y.dat (x=y):=by
 intro G1 w0 cs cs' hm hG h1 h2;refine kG (caps:=[]) aru ?_;obtain ⟨pA,pn,pc,dA,dn,dc,yA,yn,yc,fA,fn,fc,rfl,Nv,hf1⟩:=h1.cell;obtain ⟨KW,Ot,pc2,JG,MV,JI,OO,OQ,OP,GV,He,GX,rfl,H6,hf2⟩:=h2.cell;have he:=aN.eq_iff x y;refine eN [(0,_),(1,_)] func245 O ntmps245 O O hG ?_;intro a H;refine dH (fun _ K1=>?_);refine eB (cs:=[_,_,_,_,_,_,_]) H wn O O O ?_;clear H;intro b2 a w hb2 H;refine eB (cs:=[_,_,_,_,_,_,_]) H wn O O O ?_;clear H;intro b3 a w hb3 H;refine kH H (au K1 O (SR fun _ K2=>aU JM aD 1 O O (aU JM aD 0 O O (Rc O (Rm O (Sp 10 O ?_ ?_)))))) <;> clear H K1
 ·intro h10 a H
  try have kN:=dT h10
  refine kH H (YF Na h10 O ?_);clear H;intro a H;refine bq nT (cs:=[_,_,_,_,_]) H (wg H O O h10) O O (H.hp.dD 1 O O) O ?_;clear H;intro a H;refine kH H (YF Na h10 O ?_);clear H;intro a H;refine bq nT (cs:=[_,_,_,_,_]) H (wg H O O h10) O O (H.hp.dD 0 O O) O ?_;clear H;intro a H;refine s_call M0 H (wg H O O h10) O (M5 _ _ H.ro x.head y.head _ _ _ _ _ _ Nv H6) O ?_;clear H;rintro vH GH a w rfl Cw H;refine kH H (Pt h10 O (Rm O (Sp 17 O ?_ ?_))) <;> clear H
  ·intro cK a H
   try have kI:=dT cK
   refine kH H (YF DK cK O (YO fC 1 cK O (YF DK cK O (YO fC 0 cK O ?_))));clear H;intro a H;refine s_call Wu H (wg H O O cK) O (ih _ _ H.ro x.flow y.flow _ _ (hf1.mono Cw) (hf2.mono Cw) hz) O ?_;clear H;rintro vF GF a w ⟨bF,rfl,hbF⟩ Rq H;exact kH H (Pt cK O (au K2 O (LR results245 O fun H=>H.rt ⟨_,O,by rw [<- he];simp_all⟩)))
  intro cK a H
  try have kI:=dF cK
  exact kH H (bg cK O (aR cK O (Pf cK O (au K2 O (LR results245 O fun H=>H.rt ⟨_,O,by rw [<- he];simp_all⟩)))))
 intro h10 a H
 try have kN:=dF h10
 exact kH H (bg h10 O (aR h10 O (Pf h10 O (Rm O (bg O O (aR O O (Pf O O (au K2 O (LR results245 O fun H=>H.rt ⟨_,O,by rw [<- he];simp_all⟩)))))))))
theorem asv {n:Nat} (ih:F7 n) (hn:n<=4294967297) (G:GH) (x y:aM) (hz:iA x.cells < n):I7 (.func (.func 193) #[] #[]) G x.dat y.dat (x=y):=by
 intro G1 w0 cs cs' hm hG h1 h2;refine kG (caps:=[]) aqD ?_;obtain ⟨pA,pn,pc,dA,dn,dc,yA,yn,yc,fA,fn,fc,rfl,Nv,hf1⟩:=h1.row;obtain ⟨KW,Ot,pc2,JG,MV,JI,OO,OQ,OP,GV,He,GX,rfl,H6,hf2⟩:=h2.row;have he:=aM.eq_iff x y;refine eN [(0,_),(1,_)] func193 O ntmps193 O O hG ?_;intro a H;refine dH (fun _ K1=>?_);refine eB (cs:=[_,_,_,_,_,_]) H wn O O O ?_;clear H;intro b2 a w hb2 H;refine eB (cs:=[_,_,_,_,_,_]) H wn O O O ?_;clear H;intro b3 a w hb3 H;refine kH H (au K1 O (SR fun _ K2=>Rf M9 O ?_));clear H K1;intro a H;refine bq nT (cs:=[_,_,_,_,_]) H wn O O (H.hp.dD 1 O O) O ?_;clear H;intro a H;refine kH H (Rf M9 O ?_);clear H;intro a H;refine bq nT (cs:=[_,_,_,_,_]) H wn O O (H.hp.dD 0 O O) O ?_;clear H;intro a H;refine s_call M0 H wn O (M5 _ _ H.ro x.head y.head _ _ _ _ _ _ Nv H6) O ?_;clear H;rintro vH GH a w rfl Cw H;refine kH H (Rm O (Sp 10 O ?_ ?_)) <;> clear H
 ·intro h10 a H
  try have kN:=dT h10
  refine kH H (YF uy h10 O (YO rM 1 h10 O (YF uy h10 O (YO rM 0 h10 O ?_))));clear H;intro a H;refine s_call ars H (wg H O O h10) O (asj _ _ H.ro x.cells y.cells _ _ _ (hf1.mono Cw) (hf2.mono Cw) (fun i h1 h2=>ash ih _ _ _ (by have:=IV h1;omega))) rfl ?_;clear H;rintro vF GF a w ⟨bF,rfl,hbF⟩ Rq H;exact kH H (Pt h10 O (au K2 O (LR results193 O fun H=>H.rt ⟨_,O,by rw [<- he];simp_all⟩)))
 intro h10 a H
 try have kN:=dF h10
 exact kH H (bg h10 O (aR h10 O (Pf h10 O (au K2 O (LR results193 O fun H=>H.rt ⟨_,O,by rw [<- he];simp_all⟩)))))
theorem aso {n:Nat} (ih:F7 n) (hn:n<=4294967297) (G:GH) (w0:World) (hG:Hold G w0) (x y:ak) (cs cs':List ah) (h1:aX G x.dat cs) (h2:aX G y.dat cs') (hz:aP x.flow < n) (hr:gq x.rows < n) :
  Calls prog 118 #[.agg cs.toArray,.agg cs'.toArray] w0 (bG w0 G fun u G'=>∃ b,u=.bool b∧(b=true↔x=y)):=by
 obtain ⟨pA,pn,pc,dA,dn,dc,yA,yn,yc,fA,fn,fc,rA,rn,rc,rfl,Nv,hf1,hw1⟩:=h1.item;obtain ⟨KW,Ot,pc2,JG,MV,JI,OO,OQ,OP,GV,He,GX,Zj,SG,Zk,rfl,H6,hf2,hw2⟩:=h2.item;have he:=ak.eq_iff x y;have hb:=bytes_beq x.text y.text;refine eN [(0,_),(1,_)] func118 O ntmps118 O O hG ?_;intro a H;refine dH (fun _ K1=>?_);refine eB (cs:=[_,_,_,_,_,_,_,_,_,_,_]) H wn O O O ?_;clear H;intro b2 a w hb2 H;refine eB (cs:=[_,_,_,_,_,_,_,_,_,_,_]) H wn O O O ?_;clear H;intro b3 a w hb3 H;refine kH H (au K1 O (SR fun _ K2=>aU iL aD 1 O O (aU iL aD 0 O O (Rc O (Rm O (Sp 10 O ?_ ?_)))))) <;> clear H K1
 ·intro h10 a H
  try have kN:=dT h10
  refine kH H (YF DJ h10 O (YO aD 1 h10 O (YF DJ h10 O (YO aD 0 h10 O (YC h10 O (Pt h10 O (Rm O (Sp 17 O ?_ ?_)))))))) <;> clear H
  ·intro cK a H
   try have kI:=dT cK
   refine kH H (YF yO cK O (YO aD 1 cK O (YF yO cK O (YO aD 0 cK O (YC cK O (Pt cK O (Rm O (Sp 24 O ?_ ?_)))))))) <;> clear H
   ·intro dU a H
    try have lK:=dT dU
    refine kH H (YF rC dU O (YO gV 1 dU O (YF rC dU O (YO gV 0 dU O ?_))));clear H;intro a H;refine CW H (wg H O O dU) O O O ?_;clear H;intro a H;refine kH H (Pt dU O (Rm O (Sp 31 O ?_ ?_))) <;> clear H
    ·intro h31 a H
     try have p31:=dT h31
     refine kH H (YF uq h31 O ?_);clear H;intro a H;refine bq nT (cs:=[_,_,_,_,_]) H (wg H O O h31) O O (H.hp.dD 1 O O) O ?_;clear H;intro a H;refine kH H (YF uq h31 O ?_);clear H;intro a H;refine bq nT (cs:=[_,_,_,_,_]) H (wg H O O h31) O O (H.hp.dD 0 O O) O ?_;clear H;intro a H;refine s_call M0 H (wg H O O h31) O (M5 _ _ H.ro x.head y.head _ _ _ _ _ _ Nv H6) O ?_;clear H;rintro vH GH a w rfl Cw H;refine kH H (Pt h31 O (Rm O (Sp 38 O ?_ ?_))) <;> clear H
     ·intro jq a H
      try have p38:=dT jq
      refine kH H (YF uw jq O (YO fC 1 jq O (YF uw jq O (YO fC 0 jq O ?_))));clear H;intro a H;refine s_call Wu H (wg H O O jq) O (ih _ _ H.ro x.flow y.flow _ _ (hf1.mono Cw) (hf2.mono Cw) hz) O ?_;clear H;rintro vF GF a w ⟨bF,rfl,hbF⟩ Rq H;refine kH H (Pt jq O (Rm O (Sp 45 O ?_ ?_))) <;> clear H
      ·intro h45 a H
       try have p45:=dT h45
       refine kH H (YF pR h45 O (YO oq 1 h45 O (YF pR h45 O (YO oq 0 h45 O ?_))));clear H;intro a H;refine s_call aqC H (wg H O O h45) O (asn _ _ H.ro x.rows y.rows _ _ _ ((hw1.mono Cw).mono Rq) ((hw2.mono Cw).mono Rq) (fun i h1 h2=>asv ih hn _ _ _ (by have:=IX h1;omega))) rfl ?_;clear H;rintro vW GW a w ⟨bW,rfl,hbW⟩ hmW H;exact kH H (Pt h45 O (au K2 O (LR results118 O fun H=>H.rt ⟨_,O,by rw [<- he];simp_all⟩)))
      intro h45 a H
      try have p45:=dF h45
      exact kH H (bg h45 O (aR h45 O (Pf h45 O (au K2 O (LR results118 O fun H=>H.rt ⟨_,O,by rw [<- he];simp_all⟩)))))
     intro jq a H
     try have p38:=dF jq
     exact kH H (bg jq O (aR jq O (Pf jq O (Rm O (bg O O (aR O O (Pf O O (au K2 O (LR results118 O fun H=>H.rt ⟨_,O,by rw [<- he];simp_all⟩)))))))))
    intro h31 a H
    try have p31:=dF h31
    exact kH H (bg h31 O (aR h31 O (Pf h31 O (Rm O (bg O O (aR O O (Pf O O (Rm O (bg O O (aR O O (Pf O O (au K2 O (LR results118 O fun H=>H.rt ⟨_,O,by rw [<- he];simp_all⟩)))))))))))))
   intro dU a H
   try have lK:=dF dU
   exact kH H (bg dU O (aR dU O (Pf dU O (Rm O (bg O O (aR O O (Pf O O (Rm O (bg O O (aR O O (Pf O O (Rm O (bg O O (aR O O (Pf O O (au K2 O (LR results118 O fun H=>H.rt ⟨_,O,by rw [<- he];simp_all⟩)))))))))))))))))
  intro cK a H
  try have kI:=dF cK
  exact kH H (bg cK O (aR cK O (Pf cK O (Rm O (bg O O (aR O O (Pf O O (Rm O (bg O O (aR O O (Pf O O (Rm O (bg O O (aR O O (Pf O O (Rm O (bg O O (aR O O (Pf O O (au K2 O (LR results118 O fun H=>H.rt ⟨_,O,by rw [<- he];simp_all⟩)))))))))))))))))))))
 intro h10 a H
 try have kN:=dF h10
 refine kH H (bg h10 O (aR h10 O (Pf h10 O (Rm O (bg O O (aR O O (Pf O O (Rm O (bg O O (aR O O (Pf O O (Rm O (bg O O (aR O O (Pf O O (Rm O (bg O O (aR O O (Pf O O (Rm O (bg O O (aR O O ?_))))))))))))))))))))));clear H;intro a H;exact kH H (Pf O O (au K2 O (LR results118 O fun H=>H.rt ⟨_,O,by rw [<- he];simp_all⟩)))
theorem asq {n:Nat} (ih:F7 n) (hn:n<=4294967297) (G:GH) (x y:ak) (hz:aP x.flow < n) (hr:gq x.rows < n):I7 (.func (.func 118) #[] #[]) G x.dat y.dat (x=y):=by
 intro G1 w0 cs cs' hm hG h1 h2;exact kG (caps:=[]) apS (aso ih hn G1 w0 hG x y cs cs' h1 h2 hz hr)
theorem asx {n:Nat} (ih:F7 n) (hn:n<=4294967297):F7 (n+1):=by
 intro G w0 hG A B v u hv hu hz;refine eN [(0,_),(1,_)] func46 O ntmps46 O O hG ?_;intro a H;refine kP H (SR fun _ K1=>au K1 O (SR fun _ K2=>Rm O (Rm O ?_)));clear H K1;intro a H;refine s_call apR H wn O (asl _ _ H.ro A B _ _ _ hv hu (fun i h1 h2=>asq ih hn _ _ _ (by have:=IW h1;omega) (by have:=IW h1;omega))) rfl ?_;clear H;rintro v7 G7 a w ⟨b7,rfl,Cq⟩ Cu H;exact kH H (au K2 O (LR results46 O fun H=>H.rt ⟨_,O,Cq⟩))
theorem afq:∀ n:Nat,n<=4294967298->F7 n
 | 0,_=>fun _ _ _ _ _ _ _ _ _ h=>absurd h V
 | n+1,hn=>asx (afq n V) V
theorem asC (G:GH) (w0:World) (hG:Hold G w0) (A B:List ak) (v u:ah) (hv:av G (.sl 11 (A.map ak.dat)) v) (hu:av G (.sl 11 (B.map ak.dat)) u) (hz:aP A<=4294967296) :
  Calls prog 46 #[v,u] w0 (bG w0 G fun r G'=>∃ b,r=.bool b∧(b=true↔A=B)):=afq 4294967298 V G w0 hG A B v u hv hu V
structure jd where
 (f p d y r s1 s2 s3 s4:Option Addr × Nat × Nat)
 (ins move:Int)
abbrev bX (x:Option Addr × Nat × Nat):ah:=.slice x.1 x.2.1 x.2.2
abbrev jd.cells (D:jd):List ah:=[bX D.f,bX D.p,vi D.ins,vi D.move,bX D.d,bX D.y,bX D.r,bX D.s1,bX D.s2,bX D.s3,bX D.s4]
abbrev jd.val (D:jd):ah:=.agg D.cells.toArray
theorem Am:Ty prog 63 18 256 [.int .i64 0,.int .i64 0,.int .i64 0,.int .i64 0,.int .i64 0,.int .i64 0,.int .i64 0,.int .i64 0,.int .i64 0,.int .i64 0,.bool false,.slice none 0 0,.slice none 0 0,.slice none 0 0,.slice none 0 0,.slice none 0 0,.slice none 0 0,.slice none 0 0] true:=⟨Z,Z⟩
theorem Ap:prog.underlying 50=some (.slice 63):=by kernel_rfl
theorem afM:dz prog 63 0 0:=⟨Z⟩
theorem QC:dz prog 63 1 1:=⟨Z⟩
theorem WE:dz prog 63 2 2:=⟨Z⟩
theorem afR:dz prog 63 3 3:=⟨Z⟩
theorem afS:dz prog 63 4 4:=⟨Z⟩
theorem afT:dz prog 63 5 5:=⟨Z⟩
theorem afU:dz prog 63 6 6:=⟨Z⟩
theorem afV:dz prog 63 7 7:=⟨Z⟩
theorem afW:dz prog 63 8 8:=⟨Z⟩
theorem afX:dz prog 63 9 9:=⟨Z⟩
theorem afN:dz prog 63 10 10:=⟨Z⟩
theorem uS:Ty prog 4 1 1 [.bool false] false:=⟨Z,Z⟩
theorem aCf:prog.underlying 4=some .bool:=by kernel_rfl
theorem afO:dz prog 63 11 11:=⟨Z⟩
theorem afP:dz prog 63 12 12:=⟨Z⟩
theorem afQ:dz prog 63 13 13:=⟨Z⟩
theorem V6:∀ {rows:List (List ah)} (hr:∀ r∈rows,r.length=18) {k:Nat} (h:k < rows.length) (q:Nat),q < 18->rows.flatten[k*18+q]?=rows[k][q]?
 | r :: rows,hr,0,_,q,hq=>by
  rw [List.flatten_cons,Nat.zero_mul,fO,sZ (by rw [hr r eT];exact hq)];rfl
 | r :: rows,hr,k+1,h,q,hq=>by
  have ih:=V6 (rows:=rows) (fun x hx=>hr x (gH _ hx)) (k:=k) (by simpa using h) q hq;have h0:=hr r eT;rw [List.flatten_cons,qj (by rw [h0];omega),h0,show (k+1)*18+q - 18=k*18+q by omega,ih];rfl
theorem V7:∀ {rows:List (List ah)} (_:∀ r∈rows,r.length=18),rows.flatten.length=rows.length*18
 | [],_=>rfl
 | r :: rows,hr=>by
  rw [List.flatten_cons,iK,hr r eT,V7 fun x hx=>hr x (gH _ hx),lD];omega
theorem aey {cl r:List ah} {o k:Nat} (h:o+r.length<=cl.length):(setRow cl o r)[k]?=if o<=k∧k < o+r.length then r[k - o]? else cl[k]?:=by
 rw [IG _ _ _ h]
 by_cases h1:k < o
 ·rw [gY,sZ (by rw [List.length_take];omega),sV,aH h1,cu]
 by_cases h2:k < o+r.length
 ·rw [gY,qj (by rw [List.length_take];omega),List.length_take,Nat.min_eq_left V,sZ V,jZ]
 rw [qj (by rw [iK,List.length_take];omega),List.getElem?_drop,cu]
 congr 1
 rw [iK,List.length_take];omega
def Ah (n i m:Nat):Nat:=if m < i∨n<=m+i then n - 1 - m else m
def Je (rows:List (List ah)) (i:Nat) (cl:List ah):Prop:=∀ m q,m < rows.length->q < 18->cl[m*18+q]?=(rows.getD (Ah rows.length i m) [])[q]?
theorem aAF {rows:List (List ah)} {cl:List ah} (hr:∀ r∈rows,r.length=18) (h:cl.take (rows.length*18)=rows.flatten):Je rows 0 cl:=by
 intro m q hm hq;have h5:=V6 hr hm q hq;rw [<- h,sV,jZ] at h5;rw [h5,Ah,cu,List.getD_eq_getElem?_getD,fF hm];rfl
theorem akn {rows:List (List ah)} {i m:Nat} {cl:List ah} (hr:∀ r∈rows,r.length=18) (h:Je rows i cl) (hm:m < rows.length) (hi:¬ (m < i∨rows.length<=m+i)) (q:Nat) (u:ah) (hu:(rows.getD m [])[q]?=some u):cl.toArray[0+m*18+q]?=some u:=by
 have hg:rows.getD m []=rows[m]:=by rw [List.getD_eq_getElem?_getD,fF hm];rfl
 have hq:q < 18:=by have:=(ji.1 hu).1;rwa [hg,hr _ (jl hm)] at this
 rw [List.getElem?_toArray,fO,h m q hm hq,Ah,ay hi];exact hu
theorem aAH {rows:List (List ah)} {i j:Nat} {cl a b:List ah} (h:Je rows i cl) (ha:a=rows.getD j []) (hb:b=rows.getD i []) (hal:a.length=18) (hbl:b.length=18) (hl:rows.length*18<=cl.length) (hij:i < j) (hs:i+j+1=rows.length) :
  Je rows (i+1) (setRow (setRow cl (0+i*18) a) (0+j*18) b):=by
 intro m q hm hq;rw [aey (by rw [II,hbl];omega),aey (by rw [hal];omega),hal,hbl]
 by_cases h1:m=j
 ·subst h1
  have e:Ah rows.length (i+1) m=i:=by rw [Ah,aH (.inr V)];omega
  rw [e,jZ,<- hb,show m*18+q - (0+m*18)=q by omega]
 rw [cu]
 by_cases h2:m=i
 ·subst h2
  have e:Ah rows.length (m+1) m=j:=by rw [Ah,aH (.inl V)];omega
  rw [e,jZ,<- ha,show m*18+q - (0+m*18)=q by omega]
 rw [cu,h m q hm hq]
 have e:Ah rows.length (i+1) m=Ah rows.length i m:=by
  unfold Ah
  by_cases h3:m < i∨rows.length<=m+i
  ·rw [aH h3,jZ]
  rw [ay h3,cu]
 rw [e]
theorem aAG {rows:List (List ah)} {i:Nat} {cl:List ah} (hr:∀ r∈rows,r.length=18) (h:Je rows i cl) (hl:rows.length*18<=cl.length) (hi:rows.length<=i+i+1):cl.take (rows.length*18)=rows.reverse.flatten:=by
 have hr':∀ r∈rows.reverse,r.length=18:=fun r hx=>hr r (List.mem_reverse.1 hx)
 apply List.ext_getElem?
 intro k;rw [sV]
 by_cases hk:k < rows.length*18
 ·rw [aH hk]
  have hm:k / 18 < rows.length:=by omega
  have h1:=h (k / 18) (k % 18) hm V;have h2:=V6 hr' (k:=k / 18) (by rw [List.length_reverse];exact hm) (k % 18) V
  have e:Ah rows.length i (k / 18)=rows.length - 1 - k / 18:=by
   unfold Ah
   split
   ·rfl
   omega
  rw [show k / 18*18+k % 18=k by omega] at h1 h2;rw [h1,h2,e,List.getElem_reverse,List.getD_eq_getElem?_getD,fF (l:=rows) (i:=rows.length - 1 - k / 18) V]
  rfl
 rw [ay hk,List.getElem?_eq_none (by rw [V7 hr',List.length_reverse];omega)]
abbrev V9 (k f a:Int) (it:ah):List ah:=[vi k,vi f,vi a,vi 0,vi 0,vi 0,vi 0,vi 0,vi 0,vi 0,.bool false,it,.slice none 0 0,.slice none 0 0,.slice none 0 0,.slice none 0 0,.slice none 0 0,.slice none 0 0]
structure oO where
 kind:Int
 flow:Int
 at_:Int
 it:Option Addr × Nat × Nat
abbrev oO.cells (x:oO):List ah:=V9 x.kind x.flow x.at_ (bX x.it)
def wH (l:List oO):List (List ah):=l.map oO.cells
theorem aeE (l:List oO):(wH l).length=l.length:=bR _
theorem MW (l:List oO):∀ r∈wH l,r.length=18:=fun r h=>by obtain ⟨x,-,rfl⟩:=List.mem_map.1 h;rfl
theorem Qr {l:List oO} {m:Nat} (h:m < l.length):(wH l).getD m []=l[m].cells:=by
 rw [wH,List.getD_eq_getElem?_getD,pJ,fF h];rfl
theorem UK {p:Prop} (h:p:=by
 exact JJ HT Hb hG hv (fun _ _ _ _ _ h=>h) H O):p:=h
theorem jW {p:Prop} (h:p:=by
 exact absurd hB Q1):p:=h
theorem EM {p:Prop} (h:p:=by
 intro bC a w G1 _ _ aV hc hG HT hv;have H:=HT;clear aV;have Hb:=H.full;have H:=Hb;clear hc;refine kH H (Rm O ?_);clear H;intro a H;refine aF ⟨O,?_⟩;exact UK):p:=h
theorem anP {p:Prop} (h:p:=by
 clear aV;have Hb:=H.full;have H:=Hb;clear hc;refine kH H (Rm O ?_);clear H;intro a H;refine aF ⟨O,?_⟩;exact UK):p:=h
theorem Vl {p:Prop} (h:p:=by
 clear H;intro a H;refine aF ⟨O,?_⟩;exact UK):p:=h
theorem Mx {p:Prop} (h:p:=by
 intro _ _ _ _ _ hB;exact jW):p:=h
theorem Vf {p:Prop} (h:p:=by
 have Hb:=H.full;have H:=Hb;clear hc;refine kH H (Ri Ap Am O O ?_);exact Vl):p:=h
theorem acC {p:Prop} (h:p:=by
 intro bC a w G1 _ _ aV hc hG HT hv;have H:=HT;dsimp only [List.set,List.append,lca,bD] at H;exact anP):p:=h
set_option maxHeartbeats 8000000 in
theorem aAc {G:GH} {w0:World} {b c:Nat} {EN:List ah} (ps:List oO) (hO:fM G [(b,.cells EN.toArray 63 (0,0))] w0) (hnc:ps.length<=c) (hcm:c<=maxLen) (hsz:EN.length=c*18) (htk:EN.take (ps.length*18)=(wH ps).flatten) :
  Calls prog 68 #[.slice (some ⟨b,0,none⟩) ps.length c] w0 (fB w0 G [(b,.cells EN.toArray 63 (0,0))] fun _ _ L'=>∃ cl:List ah,L'=[(b,.cells cl.toArray 63 (0,0))]∧cl.length=c*18∧cl.take (ps.length*18)=(wH ps.reverse).flatten):=by
 have hml:maxLen=9223372036854775807:=rfl;have hrl:=aeE ps;refine iB (N:=28) (T:=[(0,_)]) func68 O ntmps68 O O hO ?_;intro a H;refine kP H (SR fun _ K1=>Rm O (Rl Ap O (Rs O (Ra O (au K1 O (SB ?_))))));clear H K1;intro a H;skip;refine eO (ι:=Nat × Int × List ah × GH) (Tc:=[(0,_)]) (Lc:=[]) (fun gh=>[(2,vi gh.1),(3,vi gh.2.1)]) (fun gh=>[(b,.cells gh.2.2.1.toArray 63 (0,0))]) (fun gh=>gh.2.2.2) (fun gh=>gh.2.2.1.length=c*18∧gh.2.1=(ps.length:Int) - 1 - gh.1∧Je (wH ps) gh.1 gh.2.2.1∧(∀ b o,G b=some o->gh.2.2.2 b=some o)) (fun gh=>ps.length - gh.1) ((0,(ps.length:Int) - 1,EN,G)) (by exact H.sub ⟨O,O,O,aB⟩) ?_ ?_
 ·exact ⟨hsz,by simp,aAF (MW ps) (by rw [hrl];exact htk),fun _ _ h=>h⟩
 clear H;rintro ⟨i,j,cl,g⟩ a w hI H;dsimp only at hI H;obtain ⟨hcl,hj,hat,hgm⟩:=hI;dsimp only [lca,bD] at H;refine kP H (SQ fun _ K2=>SR fun _ K3=>Rm O (Rm O (Rc O (Kz K3 (Cd O ?_ ?_))))) <;> clear H K3
 ·intro h9 a H
  try have p9:=dT h9
  obtain ⟨jn,rfl⟩:∃ jn:Nat,j=jn:=⟨j.toNat,V⟩
  have hij:i < jn:=by omega
  have hs:i+jn+1=ps.length:=by omega
  have hjl:jn < ps.length:=by omega
  have hil:i < ps.length:=by omega
  have hcj:=akn (MW ps) hat (m:=jn) V V;have hci:=akn (MW ps) hat (m:=i) V V;rw [Qr hjl] at hcj;rw [Qr hil] at hci;obtain ⟨rj,hrj,lj,aj⟩:∃ r,ps[jn].cells=r∧r.length=18∧r.all Value.oneCell'=true:=⟨_,O,O,O⟩;obtain ⟨ri,hri,RQ,ai⟩:∃ r,ps[i].cells=r∧r.length=18∧r.all Value.oneCell'=true:=⟨_,O,O,O⟩;rw [hrj] at hcj;rw [hri] at hci;obtain ⟨c1,hc1⟩:∃ c1,setRow cl (0+i*18) rj=c1:=⟨_,O⟩;obtain ⟨c2,hc2⟩:∃ c2,setRow c1 (0+jn*18) ri=c2:=⟨_,O⟩
  have hl1:c1.length=cl.length:=by rw [<- hc1,II]
  have hl2:c2.length=cl.length:=by rw [<- hc2,II,hl1]
  refine kP H (Kc K2 (SQ fun _ K4=>SB ?_));clear H K2;intro a H;refine anZ (hmx) [[],[],[],[],[],[],[4,5],[4,5,6],[],[],[8,9],[8,9,10],([0,1]++ra 4 8),([0,1]++ra 4 9),ra 0 14,ra 0 15] [14,15] Z Z 13 Q1 (fun (dK:Nat) (v:ah) (G:GH)=>match dK with|0=>v=.slice (some ⟨b,0,none⟩) ps.length c|1=>v=vi i|2=>v=.slice (some ⟨b,0,none⟩) ps.length c|3=>v=vi jn|4=>v=.slice (some ⟨b,0,none⟩) ps.length c|5=>v=vi jn|6=>v=(aJ b (0+jn*18))|7=>v=.agg rj.toArray|8=>v=.slice (some ⟨b,0,none⟩) ps.length c|9=>v=vi i|10=>v=(aJ b (0+i*18))|11=>v=.agg ri.toArray|12=>v=(aJ b (0+i*18))|_=>True) 0 ((b,.cells c1.toArray 63 (0,0))) H ?_ ?_ ?_ ?_ Z
  ·clear H;refine aC ?_ ?_ ?_ ?_ (aC ?_ ?_ ?_ ?_ (aC ?_ ?_ ?_ ?_ (aC ?_ ?_ (bQ O) (bQ O) dG)))
   ·exact EM
   ·exact EM
   ·exact EM
   ·exact EM
   ·exact EM
   ·exact EM
   ·intro bC a w G1 _ _ aV hc hG HT hv;have H:=HT;clear aV;have H:=H.aQ (hv 4 18 (hc 4 Q1) O) O;have H:=H.aQ (hv 5 19 (hc 5 Q1) O) O;exact Vf
   ·intro bC a w G1 _ _ aV hc hG HT hv;have H:=HT;clear aV;have H:=H.aQ (hv 6 20 (hc 6 Q1) O) O;have Hb:=H.full;have H:=Hb;clear hc;refine bq Am (cs:=rj) H wn O lj (fun q u hq=>H.hp.KQ (c:=cl.toArray) eT (hcj q u hq)) O ?_;exact Vl
   ·exact EM
   ·exact EM
   ·intro bC a w G1 _ _ aV hc hG HT hv;have H:=HT;clear aV;have H:=H.aQ (hv 8 22 (hc 8 Q1) O) O;have H:=H.aQ (hv 9 23 (hc 9 Q1) O) O;exact Vf
   ·intro bC a w G1 _ _ aV hc hG HT hv;have H:=HT;clear aV;have H:=H.aQ (hv 10 24 (hc 10 Q1) O) O;have Hb:=H.full;have H:=Hb;clear hc;refine bq Am (cs:=ri) H wn O RQ (fun q u hq=>H.hp.KQ (c:=cl.toArray) eT (hci q u hq)) O ?_;exact Vl
   ·intro bC a w G1 _ _ aV hc hG HT hv;have H:=HT;clear aV;have H:=H.aQ (hv 0 14 (hc 0 Q1) O) O;have H:=H.aQ (hv 1 15 (hc 1 Q1) O) O;exact Vf
   exact Mx
  ·clear H;intro o_ bC a w G1 xM _ hc hG HT hv;obtain rfl:_=o_:=Option.some.inj xM;clear xM;have H:=HT;have H:=H.aQ (hv 12 26 (hc 12 Q1) O) O;have H:=H.aQ (hv 7 21 (hc 7 Q1) O) O;have Hb:=H.full;have H:=Hb;clear hc;refine zy Am 0 (c:=cl) (vs:=rj) c1 H wn O O O O (by rw [lj];rfl) aj (Nat.ble_eq_true_of_le (by rw [lj];omega)) hc1 ?_;clear H;intro w H;dsimp only [List.set] at H;refine aF ⟨O,?_⟩;exact aex O HT hG hv H
  ·clear H;refine aC (bQ O) (bQ O) ?_ ?_ (aC (bQ O) (bQ O) (bQ O) (bQ O) (aC (bQ O) (bQ O) (bQ O) (bQ O) (aC (bQ O) ?_ (bQ O) (bQ O) dG)))
   ·exact acC
   ·exact acC
   exact Mx
  clear H;intro a w G Xk H hv;dsimp only [List.set,List.append,lca,bD] at H;have H:=H.aQ (hv 2 16 O O) O;have H:=H.aQ (hv 3 17 O O) O;have H:=H.aQ (hv 11 25 O O) O;clear hv;refine kH H (Ri Ap Am O O ?_);clear H;intro a H;refine zy Am 0 (c:=c1) (vs:=ri) c2 H wn O O O O (by rw [RQ];rfl) ai (Nat.ble_eq_true_of_le (by rw [hl1,RQ];omega)) hc2 ?_;clear H;intro w H;dsimp only [List.set] at H;refine aF ⟨O,?_⟩;refine K4 _ _ ?_;clear K4;refine kP H (SC (Rm O (Rd O (Rm O (Rs O (Ra O (Ra O ?_)))))));clear H;intro a H;refine aF ?_;refine dS ((i+1,(jn:Int) - 1,c2,_)) (by exact H.sub ⟨O,O,O,aB⟩) ?_
  (try dsimp only);exact ⟨by rw [hl2,hcl],V,by rw [<- hc2,<- hc1];exact aAH hat (by rw [Qr hjl,hrj]) (by rw [Qr hil,hri]) lj RQ V hij V,fun b o h=>Xk b o (hgm b o h)⟩
 intro h9 a H
 try have p9:=dF h9
 refine dX ?_;refine (leave0 H results68 ?_).2;exact H.hp.gI ⟨cl,O,hcl,by have:=aAG (MW ps) hat V V;rw [hrl,wH,<- List.map_reverse] at this;exact this⟩
theorem aAd {G:GH} {w0:World} {v:ah} {Lo:OL} (ps:List oO) (h0:ps≠[]) (hO:fM G Lo w0) (hrw:bV 63 18 v ps.length (wH ps).flatten Lo) :
  Calls prog 68 #[v] w0 (fB w0 G Lo fun _ _ L'=>bV 63 18 v ps.length (wH ps.reverse).flatten L'):=by
 rcases hrw.2 with ⟨rfl,h1,rfl⟩|⟨b,cap,cur,rfl,rfl,h1,h2,h3,h4⟩
 ·exact absurd (List.eq_nil_of_length_eq_zero h1) h0
 obtain ⟨EN,rfl⟩:∃ cl:List ah,cur=cl.toArray:=⟨cur.toList,by simp⟩;rw [List.size_toArray] at h3;refine (aAc ps hO h1 h2 h3 h4).mono fun e w' ⟨v,G',L',e1,e2,cl,e4,e5,e6⟩=>⟨v,G',L',e1,e2,?_⟩;exact ⟨by rw [V7 (MW _),aeE,List.length_reverse],.inr ⟨b,cap,cl.toArray,O,e4,h1,h2,by rw [List.size_toArray,e5],e6⟩⟩
def oO.dat (x:oO):List Dat:=x.cells.map .lf
theorem apK (G:GH) (x:oO):aX G x.dat x.cells:=by
 have ht:∀ (vs:List ah),(∀ v∈vs,v.oneCell'=true)->aX G (vs.map .lf) vs:=by
  intro vs
  induction vs with
  | nil=>intro _;rfl
  | cons v vs ih=>intro hv;exact ⟨v,vs,O,⟨O,hv v eT⟩,ih fun u hu=>hv u (gH _ hu)⟩
 refine ht _ fun v hv=>?_
 simp only [oO.cells,iD,List.not_mem_nil,or_false] at hv
 rcases hv with rfl|rfl|rfl|rfl|rfl|rfl|rfl|rfl|rfl|rfl|rfl|rfl|rfl|rfl|rfl|rfl|rfl|rfl <;> rfl
theorem apJ {G:GH} {x:oO} {cs:List ah} (h:aX G x.dat cs):cs=x.cells:=by
 have ht:∀ (vs cs:List ah),aX G (vs.map .lf) cs->cs=vs:=by
  intro vs
  induction vs with
  | nil=>intro cs h;simpa [aX] using h
  | cons v vs ih =>
   intro cs h
   simp only [eP,aX,av] at h
   obtain ⟨u,us,rfl,⟨rfl,-⟩,h2⟩:=h;rw [ih us h2]
 exact ht _ _ h
set_option maxHeartbeats 2000000 in
theorem aBd (G:GH) (w0:World) (hG:Hold G w0) (k f t:Int) (A:List ak) (v u:ah) (hv:av G (.sl 11 (A.map ak.dat)) v) (hu:av G (.sl 11 (A.map ak.dat)) u) (hz:aP A<=4294967296) :
  Calls prog 22 #[.agg (V9 k f t v).toArray,.agg (V9 k f t u).toArray] w0 (bG w0 G fun r G'=>r=.bool true):=by
 obtain ⟨vA,vn,vc,rfl⟩:=hv.form;obtain ⟨uA,un,uc,rfl⟩:=hu.form;refine eN [(0,_),(1,_)] func22 O ntmps22 O O hG ?_;intro a H;refine dH (fun _ K1=>?_);refine eB (cs:=[_,_,_,_,_,_,_,_,_,_,_,_,_,_,_,_,_,_]) H wn O O O ?_;clear H;intro b2 a w hb2 H;refine eB (cs:=[_,_,_,_,_,_,_,_,_,_,_,_,_,_,_,_,_,_]) H wn O O O ?_;clear H;intro b3 a w hb3 H;refine kH H (au K1 O (SR fun _ K2=>aU afM aD 1 O O (aU afM aD 0 O O (Rc O (Rm O (Sp 10 O ?_ ?_)))))) <;> clear H K1
 ·intro h10 a H
  try have kN:=dT h10
  refine kH H (YF QC h10 O (YO aD 1 h10 O (YF QC h10 O (YO aD 0 h10 O (YC h10 O (Pt h10 O (Rm O (Sp 17 O ?_ ?_)))))))) <;> clear H
  ·intro cK a H
   try have kI:=dT cK
   refine kH H (YF WE cK O (YO aD 1 cK O (YF WE cK O (YO aD 0 cK O (YC cK O (Pt cK O (Rm O (Sp 24 O ?_ ?_)))))))) <;> clear H
   ·intro dU a H
    try have lK:=dT dU
    refine kH H (YF afR dU O (YO aD 1 dU O (YF afR dU O (YO aD 0 dU O (YC dU O (Pt dU O (Rm O (Sp 31 O ?_ ?_)))))))) <;> clear H
    ·intro h31 a H
     try have p31:=dT h31
     refine kH H (YF afS h31 O (YO aD 1 h31 O (YF afS h31 O (YO aD 0 h31 O (YC h31 O (Pt h31 O (Rm O (Sp 38 O ?_ ?_)))))))) <;> clear H
     ·intro jq a H
      try have p38:=dT jq
      refine kH H (YF afT jq O (YO aD 1 jq O (YF afT jq O (YO aD 0 jq O (YC jq O (Pt jq O (Rm O (Sp 45 O ?_ ?_)))))))) <;> clear H
      ·intro h45 a H
       try have p45:=dT h45
       refine kH H (YF afU h45 O (YO aD 1 h45 O (YF afU h45 O (YO aD 0 h45 O (YC h45 O (Pt h45 O (Rm O (Sp 52 O ?_ ?_)))))))) <;> clear H
       ·intro jP a H
        try have p52:=dT jP
        refine kH H (YF afV jP O (YO aD 1 jP O (YF afV jP O (YO aD 0 jP O (YC jP O (Pt jP O (Rm O (Sp 59 O ?_ ?_)))))))) <;> clear H
        ·intro iC a H
         try have p59:=dT iC
         refine kH H (YF afW iC O (YO aD 1 iC O (YF afW iC O (YO aD 0 iC O (YC iC O (Pt iC O (Rm O (Sp 66 O ?_ ?_)))))))) <;> clear H
         ·intro DY a H
          try have p66:=dT DY
          refine kH H (YF afX DY O (YO aD 1 DY O (YF afX DY O (YO aD 0 DY O (YC DY O (Pt DY O (Rm O (Sp 73 O ?_ ?_)))))))) <;> clear H
          ·intro yU a H
           try have p73:=dT yU
           refine kH H (YF afN yU O (YO uS 1 yU O (YF afN yU O (YO uS 0 yU O ?_))));clear H;intro a H;refine aAV aCf H (wg H O O yU) O O O ?_;clear H;intro a H;refine kH H (Pt yU O (Rm O (Sp 80 O ?_ ?_))) <;> clear H
           ·intro h80 a H
            try have p80:=dT h80
            refine kH H (YF afO h80 O (YO fC 1 h80 O (YF afO h80 O (YO fC 0 h80 O ?_))));clear H;intro a H;refine s_call Wu H (wg H O O h80) O (asC _ _ H.ro A A _ _ (by assumption) (by assumption) hz) rfl ?_;clear H;rintro v85 G85 a w ⟨b85,rfl,auS⟩ avM H;rw [auS.2 O] at H;refine kH H (Pt h80 O (Rm O (Sp 87 O ?_ ?_))) <;> clear H
            ·intro h87 a H
             try have Sn:=dT h87
             refine kH H (YF afP h87 O (YO oq 1 h87 O (YL jS h87 O (YF afP h87 O (YO oq 0 h87 O (YL jS h87 O ?_))))));clear H;intro a H;refine IC _ H (wg H O O h87) O O O V V O ?_;clear H;intro a H;refine kH H (YF afQ h87 O (YO rM 1 h87 O (YL kQ h87 O ?_)));clear H;intro a H;refine IC _ H (wg H O O h87) O O O V V O ?_;clear H;intro a H;refine kH H (YF afQ h87 O (YO rM 0 h87 O (YL kQ h87 O ?_)));clear H;intro a H;refine IC _ H (wg H O O h87) O O O V V O ?_;clear H;intro a H;exact kH H (YC h87 O (Pt h87 O (au K2 O (LR results22 O fun H=>H.rt O))))
            intro h87 a H
            exact absurd h87 (by simp)
           intro h80 a H
           exact absurd h80 (by simp)
          intro yU a H
          exact absurd yU (by simp)
         intro DY a H
         exact absurd DY (by simp)
        intro iC a H
        exact absurd iC (by simp)
       intro jP a H
       exact absurd jP (by simp)
      intro h45 a H
      exact absurd h45 (by simp)
     intro jq a H
     exact absurd jq (by simp)
    intro h31 a H
    exact absurd h31 (by simp)
   intro dU a H
   exact absurd dU (by simp)
  intro cK a H
  exact absurd cK (by simp)
 intro h10 a H
 exact absurd h10 (by simp)
theorem Wq:aW 211:=aY func211 O
theorem Ti:Ty prog 111 3 16 [.bool false,.bool false,.int .i64 0] true:=⟨Z,Z⟩
theorem aBW:qW prog 146 [(0,1),(1,3)] [.slice none 0 0,.bool false,.bool false,.int .i64 0]:=⟨Z,Z⟩
theorem M6:dz prog 111 2 2:=⟨Z⟩
theorem FJ:qW prog 111 [(0,1),(1,1),(2,1)] [.bool false,.bool false,.int .i64 0]:=⟨Z,Z⟩
theorem Wy:dz prog 111 1 1:=⟨Z⟩
theorem wJ:dz prog 38 0 0:=⟨Z⟩
theorem aqh:aW 153:=aY func153 O
theorem Wp:aW 210:=aY func210 O
structure gF where
 id:Int
 items:List ak
 body:Bool
 note:Bool
 tables:Int
mutual
def qQ (note:Bool) (t:Int):ak->List gF
 | .mk k _ i _ _ f r=>if k=6 then ⟨i,f,false,true,t⟩ :: iO true t f else if k=7 then mR note t r else []
def iO (note:Bool) (t:Int):List ak->List gF
 | []=>[]
 | x :: l=>qQ note t x++iO note t l
def mR (note:Bool) (t:Int):List aM->List gF
 | []=>[]
 | r :: l=>sO note t r++mR note t l
def sO (note:Bool) (t:Int):aM->List gF
 | .mk _ cs=>nA note t cs
def nA (note:Bool) (t:Int):List aN->List gF
 | []=>[]
 | c :: l=>qP note t c++nA note t l
def qP (note:Bool) (t:Int):aN->List gF
 | .mk i _ f=>⟨i,f,false,note,t+1⟩ :: iO note (t+1) f
end
theorem aCE (note:Bool) (t:Int) (x:ak):qQ note t x=if x.kind=6 then ⟨x.id,x.flow,false,true,t⟩ :: iO true t x.flow else if x.kind=7 then mR note t x.rows else []:=by cases x;rw [qQ];rfl
theorem aCH (note:Bool) (t:Int) (x:aM):sO note t x=nA note t x.cells:=by cases x;rw [sO];rfl
theorem aCB (note:Bool) (t:Int) (x:aN):qP note t x=⟨x.id,x.flow,false,note,t+1⟩ :: iO note (t+1) x.flow:=by cases x;rw [qP];rfl
def DR (a:gF):AP:=fun args g=>∃ v,args=[vi a.id,.agg #[v,.bool a.body,.bool a.note,vi a.tables]]∧av g (.sl 11 (a.items.map ak.dat)) v
def Uw (n:Nat):Prop:=∀ (fv:ah) (Gi:GH) (xs:List AP) (J:Nat->GH->OL->Prop) (Jx:GH->OL->Prop) (G:GH) (L:OL) (w0:World) (j:Nat) (l:List ak) (id:Int) (body note:Bool) (t:Int) (v:ah),
 (∀ b o,Gi b=some o->G b=some o)->LQ prog fv Gi xs J Jx->EF J->Ji Jx->J j G L->fM G L w0->av G (.sl 11 (l.map ak.dat)) v->aP l < n->0<=t->t+aP l<=4294967296->(∀ i a,(⟨id,l,body,note,t⟩ :: iO note t l)[i]?=some a->xs[j+i]?=some (DR a)) ->
 Calls prog 211 #[vi id,v,.agg #[.bool body,.bool note,vi t],fv] w0 (fB w0 G L fun u G' L'=>∃ b,u=.bool b∧(b=true->J (j+((iO note t l).length+1)) G' L')∧(b=false->Jx G' L'))
theorem PO {p:Prop} (h:p:=by
 first
  | exact H.hp.kJ (L':=aar) (by repeat (first|exact lV _|apply List.Sublist.cons)) ⟨_,O,fun e=>(by cases e),fun _=>hb2 (by simpa using h21)⟩
  | exact H.hp.kJ (L':=Pp) (by repeat (first|exact lV _|apply List.Sublist.cons)) ⟨_,O,fun e=>(by cases e),fun _=>hb4 (by simpa using Ni)⟩
  | exact H.hp.kJ (L':=aat) (by repeat (first|exact lV _|apply List.Sublist.cons)) ⟨_,O,fun e=>(by cases e),fun _=>hb6 (by simpa using Cn)⟩
  | exact H.hp.kJ (L':=Lt) (by repeat (first|exact lV _|apply List.Sublist.cons)) ⟨_,O,fun _=>(by rw [ow V,iO] at fP;have:=fP.len;simp only [List.length_nil,wB] at this;rw [<- this];exact fP.now),fun e=>(by cases e)⟩):p:=h
set_option maxHeartbeats 1000000 in
theorem aCK {n:Nat} (ih:Uw n) (hn:n<=4294967296):Uw (n+1):=by
 intro fv Gi xs J Jx G L w0 j0 l id body note t v hGi hcb vG hJx hJ0 hO hv hz ht0 ht1 hx0;obtain ⟨A,c,rfl,hc1,hc2,hg⟩:=hv.slice;rw [bR] at *;have hll:=Au l;have XT:Now xs DR J (j0+((iO note t l).length+1)) j0 (⟨id,l,body,note,t⟩ :: iO note t l) G L:=⟨hJ0,hx0,O⟩;refine iB (N:=74) (T:=[(0,_),(1,_),(2,_),(3,_)]) func211 O ntmps211 O O hO ?_;intro a H;refine dH (fun _ K1=>?_);refine eB (cs:=[_,_,_]) H wn O O O ?_;clear H;intro b6 a w hb6 H;refine kH H (au K1 O (SQ fun _ K2=>SR fun _ K3=>Rm O (Rm O (Rm O ?_))));clear H K1;intro a H;refine bq Ti (cs:=[_,_,_]) H wn O O (H.hp.dD 0 O O) O ?_;clear H;intro a H;refine kg aBW [_,_,_,_] H wn O O O O ?_;clear H;intro a H;refine Ai (Li:=[_]) (L:=L) H wn O O (hcb _ _ _ _ _ ⟨_,XT.head,_,O,hv⟩ hGi XT.now (Hp.owns (Li:=[_]) H.hp)) O ?_;clear H;rintro v20 I8 aar a w ⟨b20,rfl,hb1,hb2⟩ Fb H;refine kH H (Rn O (Kz K3 (Cd O ?_ ?_))) <;> clear H K3
 ·intro h21 a H
  try have sK:=dT h21
  refine kP H (SR fun _ K4=>au K4 O ?_);clear H K4;intro a H;refine lr H results211 O ?_
  exact PO
 intro h21 a H
 try have sK:=dF h21
 refine kP H (Kc K2 (SQ fun _ K5=>SR fun _ K6=>Rm O (Rl eH O (Rm O (Kz K6 (SB ?_))))));clear H K2 K6;intro a H;skip;refine eO (ι:=Nat × Nat × OL × GH) (Tc:=[(3,_),(6,_),(22,_),(23,_)]) (Lc:=[(_,_)]) (fun gh=>[(24,vi gh.1)]) (fun gh=>[]++gh.2.2.1) (fun gh=>gh.2.2.2) (fun gh=>gh.1<=l.length∧(∀ b o,G b=some o->gh.2.2.2 b=some o)∧Now xs DR J (j0+((iO note t l).length+1)) gh.2.1 (iO note t (l.drop gh.1)) gh.2.2.2 gh.2.2.1) (fun gh=>l.length - gh.1) ((0,j0+1,aar,I8)) (by exact H.sub ⟨O,O,O,O,O,aB⟩) ?_ ?_
 ·exact ⟨V,Fb,XT.step (hb1 (by simpa using h21))⟩
 clear H;rintro ⟨k,j1,Lt,g⟩ a w hI H;dsimp only at hI H;obtain ⟨hk,hgm,fP⟩:=hI;dsimp only [lca,bD] at H;refine kP H (SR fun _ K7=>Rc O (Kz K7 (SQ fun _ K8=>Cd O ?_ ?_))) <;> clear H K7
 ·intro nW a H
  try have p25:=dT nW
  have hk2:k < l.length:=by omega
  obtain ⟨b,o,pA,pn,pc,dA,dn,dc,yA,yn,yc,fA,fn,fc,rA,rn,rc,rfl,hrow,hhd,hfl,hrw⟩:=zT hk2 hg;replace hrow:=fun j u hj=>aK hgm (hrow j u hj);have hrn:=hrw.len;rw [bR] at hrn;subst hrn;have hrs:=F4 l[k].rows;have hsz1:=IW hk2;rw [mW hk2] at fP
  simp only [iO,aCE] at fP
  refine kP H (Kc K8 (SQ fun _ K9=>SB (SR fun _ aT=>Ri eH cO O O ?_)));clear H K8;intro a H;refine bq cO (cs:=[_,_,_,_,_,_,_,_,_,_,_]) H wn O O (fun j v hj=>H.hp.aI (hrow j v hj)) O ?_;clear H;intro a H;refine dR cO H wn O ?_;clear H;intro b10 a w Xq H;refine bM cO 0 (vs:=[_,_,_,_,_,_,_,_,_,_,_]) H wn O ?_;clear H;intro w H;refine aT _ _ ?_;clear aT;refine kP H (SR fun _ bJ=>aU iL aD 0 O O (Kz bJ (SB (SR fun _ bO=>Rc O (au bO O (Cd O ?_ ?_)))))) <;> clear H bJ bO
  ·intro nX a H
   try have p30:=dT nX
   rw [aH p30] at fP;refine kP H (SR fun _ bU=>aU yO aD 0 O O (aU uw fC 0 O O (aU M6 aD 1 O O ?_)));clear H;intro a H;refine kg FJ [_,_,_] H wn O O O O ?_;clear H;intro a H;refine kH H (Rm O ?_);clear H;intro a H;refine gD Wq (Li:=[_,_]) (L:=Lt) H wn O (ih fv Gi xs J Jx _ _ _ j1 l[k].flow l[k].id false true t _ (fun b o h=>hgm b o (hGi b o h)) hcb vG hJx fP.now (Hp.owns (Li:=[_,_]) H.hp) (hfl.mono hgm) V ht0 V fP.part) O ?_;clear H;rintro v40 LV Pp a w ⟨b40,rfl,hb3,hb4⟩ Ed H;refine kH H (Rn O (Kz bU (Cd O ?_ ?_))) <;> clear H bU
   ·intro Ni a H
    try have p41:=dT Ni
    refine kP H (SR fun _ bZ=>au bZ O ?_);clear H bZ;intro a H;refine lr H results211 O ?_
    exact PO
   intro Ni a H
   try have p41:=dF Ni
   refine kP H (Kc K9 (SC (Rd O (Rm O ?_))));clear H K9;intro a H;refine aF ?_;refine dS ((k+1,j1+((iO true t l[k].flow).length+1),Pp,LV)) (by exact (H.dV (Pl:=[_,_]) (dL:=[_]) [1] Q1 O).sub ⟨O,O,O,O,O,aB⟩) ?_
   (try dsimp only);exact ⟨V,fun b o h=>Ed b o (hgm b o h),fP.jump (hb3 (by simpa using Ni))⟩
  intro nX a H
  try have p30:=dF nX
  refine kP H (SR fun _ dP=>Rc O (au dP O (Cd O ?_ ?_))) <;> clear H dP
  ·intro jy a H
   try have p42:=dT jy
   rw [ay p30,aH p42] at fP;refine kP H (SR fun _ dY=>aU pR oq 0 O O (Rl jS O (Rm O (Kz dY (SB ?_)))));clear H dY;intro a H;skip;refine eO (ι:=Nat × Nat × OL × GH) (Tc:=[(3,_),(6,_),(22,_),(23,_),(24,_),(45,_),(46,_)]) (Lc:=[(_,_),(_,_)]) (fun gh=>[(47,vi gh.1)]) (fun gh=>[]++gh.2.2.1) (fun gh=>gh.2.2.2) (fun gh=>gh.1<=l[k].rows.length∧(∀ b o,G b=some o->gh.2.2.2 b=some o)∧Now xs DR J (j0+((iO note t l).length+1)) gh.2.1 (mR note t (l[k].rows.drop gh.1)++iO note t (l.drop (k+1))) gh.2.2.2 gh.2.2.1) (fun gh=>l[k].rows.length - gh.1) ((0,j1,Lt,g)) (by exact H.sub ⟨O,O,O,O,O,O,O,O,aB⟩) ?_ ?_
   ·exact ⟨V,hgm,fP⟩
   clear H;rintro ⟨rk,j3,Lt3,g3⟩ a w hI H;dsimp only at hI H;obtain ⟨NU,yX,oF⟩:=hI;dsimp only [lca,bD] at H;refine kP H (SR fun _ dQ=>Rc O (Kz dQ (SQ fun _ eX=>Cd O ?_ ?_))) <;> clear H dQ
   ·intro h48 a H
    try have p48:=dT h48
    have hk3:rk < l[k].rows.length:=by omega
    obtain ⟨b2,o2,qA,qn,qc,eA,en,ec,zA,zn,zc,cA,cn,cc,rfl,hrow,Ac,hcl⟩:=IB hk3 hrw.at_;replace hrow:=fun j u hj=>aK yX (hrow j u hj);have hcn:=hcl.len;rw [bR] at hcn;subst hcn;have hsz2:=IX hk3;have hcs:=FZ l[k].rows[rk].cells;rw [mW hk3] at oF
    simp only [mR,aCH,gY] at oF
    refine kP H (Kc eX (SQ fun _ gM=>SB (SR fun _ fI=>Ri jS ig O O ?_)));clear H eX;intro a H;refine bq ig (cs:=[_,_,_,_,_,_]) H wn O O (fun j v hj=>H.hp.aI (hrow j v hj)) O ?_;clear H;intro a H;refine dR ig H wn O ?_;clear H;intro b12 a w D9 H;refine bM ig 0 (vs:=[_,_,_,_,_,_]) H wn O ?_;clear H;intro w H;refine fI _ _ ?_;clear fI;refine kP H (SR fun _ gQ=>aU uy rM 0 O O (Rl kQ O (Rm O (Kz gQ (SB ?_)))));clear H gQ;intro a H;skip;refine eO (ι:=Nat × Nat × OL × GH) (Tc:=[(3,_),(6,_),(22,_),(23,_),(24,_),(45,_),(46,_),(47,_),(52,_),(53,_)]) (Lc:=[(_,_),(_,_),(_,_)]) (fun gh=>[(54,vi gh.1)]) (fun gh=>[]++gh.2.2.1) (fun gh=>gh.2.2.2) (fun gh=>gh.1<=l[k].rows[rk].cells.length∧(∀ b o,G b=some o->gh.2.2.2 b=some o)∧Now xs DR J (j0+((iO note t l).length+1)) gh.2.1 (nA note t (l[k].rows[rk].cells.drop gh.1)++(mR note t (l[k].rows.drop (rk+1))++iO note t (l.drop (k+1)))) gh.2.2.2 gh.2.2.1) (fun gh=>l[k].rows[rk].cells.length - gh.1) ((0,j3,Lt3,g3)) (by exact H.sub ⟨O,O,O,O,O,O,O,O,O,O,O,aB⟩) ?_ ?_
    ·exact ⟨V,yX,oF⟩
    clear H;rintro ⟨ck,j4,Lt4,g4⟩ a w hI H;dsimp only at hI H;obtain ⟨hck,Nu,pV⟩:=hI;dsimp only [lca,bD] at H;refine kP H (SR fun _ jw=>Rc O (Kz jw (SQ fun _ kK=>Cd O ?_ ?_))) <;> clear H jw
    ·intro nL a H
     try have p55:=dT nL
     have hk4:ck < l[k].rows[rk].cells.length:=by omega
     obtain ⟨b3,o3,sA,sn,sc,tA,tn,tc,uA,un,uc,gA,gn,gc,rfl,hrow,hch,hcf⟩:=JD hk4 hcl.at_;replace hrow:=fun j u hj=>aK Nu (hrow j u hj);have Rz:=IV hk4;rw [mW hk4] at pV
     simp only [nA,aCB,gY] at pV
     refine kP H (Kc kK (SQ fun _ kD=>SB (SR fun _ jF=>Ri kQ iN O O ?_)));clear H kK;intro a H;refine bq iN (cs:=[_,_,_,_,_,_,_]) H wn O O (fun j v hj=>H.hp.aI (hrow j v hj)) O ?_;clear H;intro a H;refine dR iN H wn O ?_;clear H;intro b14 a w QV H;refine bM iN 0 (vs:=[_,_,_,_,_,_,_]) H wn O ?_;clear H;intro w H;refine jF _ _ ?_;clear jF;refine kP H (SR fun _ kR=>aU JM aD 0 O O (aU DK fC 0 O O (aU Wy uS 3 O O (aU M6 aD 3 O O (Rd O ?_)))));clear H;intro a H;refine kg FJ [_,_,_] H wn O O O O ?_;clear H;intro a H;refine kH H (Rm O ?_);clear H;intro a H;refine gD Wq (Li:=[_,_,_,_]) (L:=Lt4) H wn O (ih fv Gi xs J Jx _ _ _ j4 l[k].rows[rk].cells[ck].flow l[k].rows[rk].cells[ck].id false note (t+1) _ (fun b o h=>Nu b o (hGi b o h)) hcb vG hJx pV.now (Hp.owns (Li:=[_,_,_,_]) H.hp) (hcf.mono Nu) V V V pV.part) O ?_;clear H;rintro v69 G69 aat a w ⟨b69,rfl,hb5,hb6⟩ avL H;refine kH H (Rn O (Kz kR (Cd O ?_ ?_))) <;> clear H kR
     ·intro Cn a H
      try have p70:=dT Cn
      refine kP H (SR fun _ lN=>au lN O ?_);clear H lN;intro a H;refine lr H results211 O ?_
      exact PO
     intro Cn a H
     try have p70:=dF Cn
     refine kP H (Kc kD (SC (Rd O (Rm O ?_))));clear H kD;intro a H;refine aF ?_;refine dS ((ck+1,j4+((iO note (t+1) l[k].rows[rk].cells[ck].flow).length+1),aat,G69)) (by exact (H.dV (Pl:=[_,_,_,_]) (dL:=[_,_,_]) [1,2,3] Q1 O).sub ⟨O,O,O,O,O,O,O,O,O,O,O,aB⟩) ?_
     (try dsimp only);exact ⟨V,fun b o h=>avL b o (Nu b o h),pV.jump (hb5 (by simpa using Cn))⟩
    intro nL a H
    try have p55:=dF nL
    refine dX ?_;refine gM _ _ ?_;clear gM;refine kP H (SC (Rd O (Rm O ?_)));clear H;intro a H;refine aF ?_;refine dS ((rk+1,j4,Lt4,g4)) (by exact (H.dV (Pl:=[_,_,_]) (dL:=[_,_]) [1,2] Q1 O).sub ⟨O,O,O,O,O,O,O,O,aB⟩) ?_
    (try dsimp only);exact ⟨V,Nu,by rw [ow V,nA,gJ] at pV;exact pV⟩
   intro h48 a H
   try have p48:=dF h48
   refine dX ?_;refine K9 _ _ ?_;clear K9;refine kP H (SC (Rd O (Rm O ?_)));clear H;intro a H;refine aF ?_;refine dS ((k+1,j3,Lt3,g3)) (by exact (H.dV (Pl:=[_,_]) (dL:=[_]) [1] Q1 O).sub ⟨O,O,O,O,O,aB⟩) ?_
   (try dsimp only);exact ⟨V,yX,by rw [ow V,mR,gJ] at oF;exact oF⟩
  intro jy a H
  try have p42:=dF jy
  refine kP H (Kc K9 (SC (Rd O (Rm O ?_))));clear H K9;intro a H;refine aF ?_;refine dS ((k+1,j1,Lt,g)) (by exact (H.dV (Pl:=[_,_]) (dL:=[_]) [1] Q1 O).sub ⟨O,O,O,O,O,aB⟩) ?_
  (try dsimp only);exact ⟨V,hgm,by rw [ay p30,ay p42,gJ] at fP;exact fP⟩
 intro nW a H
 try have p25:=dF nW
 refine dX ?_;refine K5 _ _ ?_;clear K5;refine kP H (SR fun _ jJ=>au jJ O ?_);clear H jJ;intro a H;refine lr H results211 O ?_
 exact PO
theorem alL:∀ n:Nat,n<=4294967297->Uw n
 | 0,_=>fun _ _ _ _ _ _ _ _ _ _ _ _ _ _ _ _ _ _ _ _ _ _ h=>absurd h V
 | n+1,hn=>aCK (alL n V) V
def mI (l:List ak):List gF:=⟨0,l,true,false,0⟩ :: iO false 0 l
theorem atv {G:GH} {ba bl bp:Nat} {l:List ak} {v:ah} {id t:Int} {body note:Bool} (h1:aI G ba 0=some (vi id)) (h2:aI G bl 0=some v) (h3:G bp=some (.cells #[.bool body,.bool note,vi t] 111 (0,0))) (hv:av G (.sl 11 (l.map ak.dat)) v) (hz:aP l<=4294967296) (ht0:0<=t) (ht1:t+aP l<=4294967296) :
  Iter prog G (.func (.func 210) #[] #[(aJ ba 0),(aJ bl 0),(aJ bp 0)]) ((⟨id,l,body,note,t⟩ :: iO note t l).map DR):=by
 intro J Jx fv G1 L w0 hfv hGi vG hJx hJ hO hcb;refine kG (caps:=[(aJ ba 0),(aJ bl 0),(aJ bp 0)]) Wp ?_;replace h1:=aK hGi h1;replace h2:=aK hGi h2
 have hrow:∀ j u,[.bool body,.bool note,vi t][j]?=some u->aI G1 bp (0+j)=some u:=by
  intro j u hj;refine aK hGi ?_
  unfold aI;rw [h3];simpa using hj
 refine iB (N:=10) (T:=[(0,_),(1,_),(2,_),(3,_)]) func210 O ntmps210 O O hO ?_;intro a H;refine kP H (SC (Rg aD O (by assumption) ?_));clear H;intro a H;refine kH H (Rg fC O (by assumption) ?_);clear H;intro a H;refine bq Ti (cs:=[_,_,_]) H wn O O (fun j v hj=>H.hp.aI (hrow j v hj)) O ?_;clear H;intro a H;refine kH H (Rm O ?_);clear H;intro a H;refine gD Wq (Li:=[]) (L:=L) H wn O (alL 4294967297 V _ G1 _ J Jx G1 _ _ 0 l id body note t _ (fun _ _ h=>h) hcb vG hJx hJ (Hp.owns (Li:=[]) H.hp) (hv.mono hGi) V ht0 ht1 (fun i a h=>by rw [fO,pJ,h];rfl)) rfl ?_;clear H;rintro v9 G9 L9 a w ⟨b9,rfl,h1,h2⟩ yY H;refine aF ?_;refine (leave0 H results210 ?_).2
 cases b9
 ·exact H.hp.gI (.inr (h2 O))
 exact H.hp.gI (.inl (by simpa using h1 O))
theorem atw (G:GH) (w0:World) (hG:Hold G w0) (l:List ak) (v:ah) (id t:Int) (body note:Bool) (hv:av G (.sl 11 (l.map ak.dat)) v) (hz:aP l<=4294967296) (ht0:0<=t) (ht1:t+aP l<=4294967296) :
  Calls prog 153 #[vi id,v,.agg #[.bool body,.bool note,vi t]] w0 (bG w0 G fun u G'=>∃ ba bl bp,u=.func (.func 210) #[] #[(aJ ba 0),(aJ bl 0),(aJ bp 0)]∧Iter prog G' u ((⟨id,l,body,note,t⟩ :: iO note t l).map DR)):=by
 obtain ⟨A,c,rfl,hc1,hc2,hg⟩:=hv.slice;refine eN [(0,_),(1,_),(2,_)] func153 O ntmps153 O O hG ?_;intro a H;refine dH (fun _ K1=>?_);refine eB (cs:=[_]) H wn O O O ?_;clear H;intro b3 a w hb3 H;refine eB (cs:=[_]) H wn O O O ?_;clear H;intro b4 a w hb4 H;refine eB (cs:=[_,_,_]) H wn O O O ?_;clear H;intro b5 a w hb5 H;refine kH H (au K1 O (SR fun _ K2=>?_));clear H K1;intro a H;refine wV H wn O O ?_;clear H;intro a H;refine kH H (au K2 O ?_);clear H K2;intro a H;refine gu ?_;obtain ⟨G2,hm2,hb5,H⟩:=H.fJ;obtain ⟨G3,Nz,hb4,H⟩:=H.fJ;obtain ⟨G4,Kl,hb3,H⟩:=H.fJ;refine lv H results153 O ?_;exact H.rt ⟨b3,b4,b5,O,atv (by unfold aI;rw [hb3];rfl) (aK Kl (by unfold aI;rw [hb4];rfl)) (Kl _ _ (Nz _ _ hb5)) (hv.mono fun b o h=>Kl _ _ (Nz _ _ (hm2 _ _ h))) hz ht0 ht1⟩
theorem ajq (G:GH) (w0:World) (hG:Hold G w0) (D:jd) (l:List ak) (hv:av G (.sl 11 (l.map ak.dat)) (bX D.f)) (hz:aP l<=4294967296) :
  Calls prog 70 #[D.val] w0 (bG w0 G fun u G'=>∃ ba bl bp,u=.func (.func 210) #[] #[(aJ ba 0),(aJ bl 0),(aJ bp 0)]∧Iter prog G' u ((mI l).map DR)):=by
 refine eN [(0,_)] func70 O ntmps70 O O hG ?_;intro a H;refine dH (fun _ K1=>?_);refine eB (cs:=[_,_,_,_,_,_,_,_,_,_,_]) H wn O O O ?_;clear H;intro b1 a w hb1 H;refine kH H (au K1 O (SR fun _ K2=>aU wJ fC 0 O O ?_));clear H K1;intro a H;refine kg FJ [_,_,_] H wn O O O O ?_;clear H;intro a H;refine s_call aqh H wn O (atw _ _ H.ro l _ 0 0 true false hv hz V V) O ?_;clear H;rintro v6 G6 a w ⟨ba,bl,bp,rfl,hit⟩ H8 H;exact kH H (au K2 O (LR results70 O fun H=>H.rt ⟨ba,bl,bp,O,hit⟩))
theorem jH:Ty prog 38 11 232 [.slice none 0 0,.slice none 0 0,.int .i64 0,.int .i64 0,.slice none 0 0,.slice none 0 0,.slice none 0 0,.slice none 0 0,.slice none 0 0,.slice none 0 0,.slice none 0 0] true:=⟨Z,Z⟩
theorem afk:aW 70:=aY func70 O
theorem alg:Ty prog 146 4 40 [.slice none 0 0,.bool false,.bool false,.int .i64 0] true:=⟨Z,Z⟩
theorem asN:dz prog 146 0 0:=⟨Z⟩
mutual
theorem aCG {note:Bool} {t:Int} {f:gF}:∀ {x:ak},f∈qQ note t x->aP f.items < bY x.dat
 | .mk k c i tx h fl r,hf=>by
  have h4:=pG (.mk k c i tx h fl r)
  simp only [ak.text,ak.head,ak.flow,ak.rows] at h4
  rw [qQ] at hf
  split at hf
  ·rcases iD.1 hf with rfl|hf
   ·show aP fl < _;omega
   have:=TD hf;omega
  split at hf
  ·have:=alK hf;omega
  cases hf
theorem TD {note:Bool} {t:Int} {f:gF}:∀ {l:List ak},f∈iO note t l->aP f.items<=aP l
 | [],hf=>by simp [iO] at hf
 | x :: l,hf=>by
  rw [iO] at hf
  simp only [aP,eP,eZ]
  rcases iP.1 hf with hf|hf
  ·have:=aCG hf;simp only [aP] at this;omega
  have:=TD hf;simp only [aP] at this;omega
theorem alK {note:Bool} {t:Int} {f:gF}:∀ {l:List aM},f∈mR note t l->aP f.items<=gq l
 | [],hf=>by simp [mR] at hf
 | x :: l,hf=>by
  rw [mR] at hf
  simp only [gq,eP,eZ]
  rcases iP.1 hf with hf|hf
  ·have:=aCJ hf;simp only [aP] at *;omega
  have:=alK hf;simp only [aP,gq] at *;omega
theorem aCJ {note:Bool} {t:Int} {f:gF}:∀ {x:aM},f∈sO note t x->aP f.items<=bY x.dat
 | .mk h cs,hf=>by
  have h4:=Av (.mk h cs)
  simp only [aM.head,aM.cells] at h4
  rw [sO] at hf;have:=alG hf;omega
theorem alG {note:Bool} {t:Int} {f:gF}:∀ {l:List aN},f∈nA note t l->aP f.items<=iA l
 | [],hf=>by simp [nA] at hf
 | x :: l,hf=>by
  rw [nA] at hf
  simp only [iA,eP,eZ]
  rcases iP.1 hf with hf|hf
  ·have:=aCD hf;simp only [aP] at *;omega
  have:=alG hf;simp only [aP,iA] at *;omega
theorem aCD {note:Bool} {t:Int} {f:gF}:∀ {x:aN},f∈qP note t x->aP f.items<=bY x.dat
 | .mk i h fl,hf=>by
  have h4:=Ar (.mk i h fl)
  simp only [aN.head,aN.flow] at h4
  rw [qP] at hf
  rcases iD.1 hf with rfl|hf
  ·show aP fl<=_;omega
  have:=TD hf;omega
end
theorem agj {f:gF} {l:List ak} (h:f∈mI l):aP f.items<=aP l:=by
 rcases iD.1 h with rfl|h
 ·exact fD _
 exact TD h
def uz (l:List ak) (id:Int):Option (List ak):=((mI l).find? fun f=>decide (f.id=id)).map gF.items
theorem atu {f:List ak} {l:List ak} {id:Int} (h:uz l id=some f):aP f<=aP l:=by
 obtain ⟨a,ha,rfl⟩:=nG.1 h;exact agj (List.mem_of_find?_eq_some ha)
theorem ath {α:Type} {p:α->Bool} {A:List α} {k:Nat} (hk:k < A.length) (h:(A.take k).find? p=none) (hp:p A[k]=false):(A.take (k+1)).find? p=none:=by
 rw [jk hk,List.find?_append,h]
 simp [hp]
theorem ati {α:Type} {p:α->Bool} {A:List α} {k:Nat} (hk:k < A.length) (h:(A.take k).find? p=none) (hp:p A[k]=true):A.find? p=some A[k]:=by
 have e:A.find? p=(A.take k++A.drop k).find? p:=by rw [List.take_append_drop]
 rw [e,List.find?_append,h,mW hk,List.find?_cons,hp]
 rfl
theorem afZ {α:Type} {p:α->Bool} {A:List α} (h:(A.take A.length).find? p=none):A.find? p=none:=by rwa [vg] at h
theorem QJ {A:List gF} {k:Nat} {args:List ah} {g:GH} (h:yg (A.map DR) k args g):∃ (hk:k < A.length) (a:Option Addr) (n c:Nat),args=[vi A[k].id,.agg #[.slice a n c,.bool A[k].body,.bool A[k].note,vi A[k].tables]]∧av g (.sl 11 (A[k].items.map ak.dat)) (.slice a n c):=by
 obtain ⟨p,hp,hargs⟩:=h;rw [pJ] at hp;obtain ⟨q,hq,rfl⟩:=nG.1 hp;obtain ⟨hk,rfl⟩:=ji.1 hq;obtain ⟨v,h1,h2⟩:=hargs;obtain ⟨a,n,c,rfl⟩:=h2.form;exact ⟨hk,a,n,c,h1,h2⟩
theorem agi (G:GH) (w0:World) (hG:Hold G w0) (D:jd) (l:List ak) (id:Int) (hv:av G (.sl 11 (l.map ak.dat)) (bX D.f)) (hz:aP l<=4294967296) :
  Calls prog 23 #[D.val,vi id] w0 (bG w0 G fun u G'=>∃ v,u=.tuple #[v,.bool (uz l id).isSome]∧av G' (.sl 11 (((uz l id).getD []).map ak.dat)) v):=by
 refine eN [(0,_),(1,_)] func23 O ntmps23 O O hG ?_;intro a H;refine dH (fun _ K1=>?_);refine eB (cs:=[_,_,_,_,_,_,_,_,_,_,_]) H wn O O O ?_;clear H;intro b2 a w hb2 H;refine eB (cs:=[_]) H wn O O O ?_;clear H;intro b3 a w hb3 H;refine dR fC H wn O ?_;clear H;intro b4 a w hb4 H;refine dR uS H wn O ?_;clear H;intro b5 a w hb5 H;refine K1 _ _ ?_;clear K1;refine bP (fun _ K2=>?_);refine dH (fun _ K3=>?_);refine bq jH (cs:=[_,_,_,_,_,_,_,_,_,_,_]) H wn O O (H.hp.dD 3 O O) O ?_;clear H;intro a H;refine s_call afk H wn O (ajq _ _ H.ro D l hv hz) O ?_;clear H;rintro v9 G9 a w ⟨ba,bl,bp,rfl,hit⟩ yY H;refine K3 _ _ ?_;clear K3;refine AU ?_;skip;refine VN (ι:=Unit) (κ:=ah) (Lc:=[(_,_),(_,_)]) (fun (k:Nat) (gh:Unit)=>[(b4,.cells #[.slice none 0 0] 22 (0,0)),(b5,.cells #[.bool false] 4 (0,0))]) (fun (k:Nat) (gh:Unit)=>[]) (fun (k:Nat) (gh:Unit) (g:GH)=>((mI l).take k).find? (fun f=>decide (f.id=id))=none) (fun (gx:ah)=>Code.ret) (fun (gx:ah)=>[(b4,.cells #[gx] 22 (0,0)),(b5,.cells #[.bool true] 4 (0,0))]) (fun (gx:ah)=>[]) (fun (gx:ah) (g:GH)=>∃ f,uz l id=some f∧av g (.sl 11 (f.map ak.dat)) gx) (()) (by exact H.dV (Pl:=[_,_,_,_]) (dL:=[_,_,_,_]) [2,3,1,0] Q1 O) O Wp (hit) (fun _ _ h=>h) O (fun k args g h=>by obtain ⟨_,_,_,_,rfl,_⟩:=QJ h;rfl) (fun _ _ _ _ _ h=>h) (fun x G G' hm h=>let ⟨f,h1,h2⟩:=h;⟨f,h1,h2.mono hm⟩) (rfl) ?_ ?_ ?_
 ·clear H;intro l2 Em AQ bk k args gh G2 w2 F2 B2 a hk2 hm2 hI Xv XR ahM H;obtain ⟨hk,vA,vn,vc,rfl,hrep⟩:=QJ hk2;dsimp only [zM,List.cons_append,List.nil_append] at H;refine kP H (SR fun _ K4=>au K4 O (SC ?_));clear H K4;intro a H;refine dR alg H wn O ?_;clear H;intro b7 a w Cq H;refine bM alg 0 (vs:=[_,_,_,_]) H wn O ?_;clear H;intro w H;refine aF ?_;refine Xv _ _ _ _ _ _ (by exact H.dV (Pl:=[_,_,_,_,_,_]) (dL:=[_,_,_,_,_,_]) [1,0,2,3,4,5] Q1 O) ?_;clear H;intro w H;refine kP H (SB (SR fun _ K5=>Rm O (Ro aD 2 O (Rc O (Kz K5 (Cd O ?_ ?_)))))) <;> clear H K5
  ·intro eD a H
   try have lJ:=dT eD
   refine kP H (SR fun _ K6=>aU asN fC 1 O O ?_);clear H;intro a H;refine s_call Qv H wn O (apb _ _ H.ro _ _ hrep (by have:=agj (jl hk);omega)) rfl ?_;clear H;rintro v17 Ay a w Fu tK H;obtain ⟨A17,n17,c17,rfl⟩:=Fu.form;refine bM fC 4 (vs:=[_]) H wn O ?_;clear H;intro w H;refine bM uS 5 (vs:=[_]) H wn O ?_;clear H;intro w H;refine K6 _ _ ?_;clear K6;refine gu ?_;refine (ahM (.slice A17 n17 c17) _ _ _ _ _ (by exact H.dV (Pl:=[_,_,_,_,_,_]) (dL:=[_,_,_,_,_]) [0,2,3,4,5] Q1 O) ?_).1 O;exact ⟨_,by unfold uz;rw [ati hk hI eD];rfl,Fu⟩
  intro eD a H
  refine gT ?_;refine XR (()) _ _ _ _ _ (by exact H.dV (Pl:=[_,_,_,_,_,_]) (dL:=[_,_,_,_,_]) [0,2,3,4,5] Q1 O) ?_;exact ath hk hI eD
 ·clear H;intro Dk2 gh Gd2 a w hm2 hI H;dsimp only [lca,bD] at H;refine K2 _ _ ?_;clear K2;refine dH (fun _ K7=>?_);refine bM fC 3 (vs:=[_]) H wn O ?_;clear H;intro w H;refine bM uS 4 (vs:=[_]) H wn O ?_;clear H;intro w H;refine K7 _ _ ?_;clear K7;refine gu ?_;refine (KM H 0 O ?_).1;clear H;intro a w H;dsimp only [List.eraseIdx_cons_succ,List.eraseIdx_cons_zero] at H;refine (jQ H results23 (.cons (CQ fC H O (H.hp.tO 2 O O)) (.cons (CQ uS H O (H.hp.tO 3 O O)) .nil)) ?_).1;exact H.rt ⟨_,by unfold uz;rw [afZ (by simpa using hI)];rfl,by unfold uz;rw [afZ (by simpa using hI)];exact av.og O Q1⟩
 clear H;intro Dk2 x Gd2 a w hm2 hI H;dsimp only [lca,bD] at H;obtain ⟨f,hf,hrep⟩:=hI;obtain ⟨xA,xn,xc,rfl⟩:=hrep.form;refine gu ?_;refine (KM H 0 O ?_).1;clear H;intro a w H;dsimp only [List.eraseIdx_cons_succ,List.eraseIdx_cons_zero] at H;refine (jQ H results23 (.cons (CQ fC H O (H.hp.tO 2 O O)) (.cons (CQ uS H O (H.hp.tO 3 O O)) .nil)) ?_).1;exact H.rt ⟨_,by rw [hf];rfl,by rw [hf];exact hrep⟩
theorem ain {α:Type} {p:α->Bool} {A:List α} {k:Nat} (hk:k < A.length) (h:(A.take k).findIdx? p=none) (hp:p A[k]=false):(A.take (k+1)).findIdx? p=none:=by
 rw [List.findIdx?_eq_none_iff] at h |-;rw [jk hk];intro x hx
 rcases iP.1 hx with hx|hx
 ·exact h x hx
 rw [qX.1 hx];exact hp
theorem Yo {α:Type} {p:α->Bool} {A:List α} {k:Nat} (hk:k < A.length) (h:(A.take k).findIdx? p=none) (hp:p A[k]=true):A.findIdx? p=some k:=by
 have e:A.findIdx? p=(A.take k++A.drop k).findIdx? p:=by rw [List.take_append_drop]
 rw [e,List.findIdx?_append,h,mW hk,List.findIdx?_cons,hp]
 simp;omega
theorem Lm:Jg prog 167:=⟨Z⟩
theorem u8B:U8 prog 5:=⟨Z⟩
theorem axU:liesAt prog prog.depth 167 (2 / prog.cellsOf 167) 0 167 1=true:=by kernel_rfl
theorem adN:prog.cellsOf 5=1:=by kernel_rfl
theorem ajl (v:ah) (w:World):(callFunc 219 #[v]).run prog w=.ok (.value v) w:=aAC func219 Z Z Z Z v w
theorem Dg:prog.underlying 164=some (.pointer 167):=by kernel_rfl
theorem Tw:prog.underlying 308=some .unsafePointer:=by kernel_rfl
theorem ES:dz prog 167 0 0:=⟨Z⟩
theorem FK:Ty prog 164 1 8 [.pointer none] false:=⟨Z,Z⟩
theorem aeQ:aW 169:=aY func169 O
theorem Ew:prog.underlying 165=some (.slice 5):=by kernel_rfl
theorem Ck:dz prog 167 1 1:=⟨Z⟩
theorem Db:Ty prog 165 1 24 [.slice none 0 0] false:=⟨Z,Z⟩
theorem alm:prog.underlying 259=some (.pointer 5):=by kernel_rfl
abbrev bB (b:Nat) (p v:ah):Nat × Obj:=(b,.cells #[p,v] 167 (0,0))
theorem PS {p:Prop} (h:p:=by
 exact H.hp.gI ⟨O,O⟩):p:=h
theorem acV {p:Prop} (h:p:=by
 clear H;intro a H;refine kH H (Rk O (Rf ES O ?_));clear H;intro a H;refine bM FK 0 (vs:=[_]) H wn O ?_;clear H;intro w H;refine aF ?_;refine (leave0 H results169 ?_).2;exact PS):p:=h
theorem apm (G:GH) (L:OL) (w0:World) (b:Nat) (A:Option Addr) (n c:Nat) (hO:fM G (bB b (.pointer none) (.slice A n c) :: L) w0) :
  Calls prog 169 #[(aJ b 0)] w0 (fB w0 G (bB b (.pointer none) (.slice A n c) :: L) fun u G' L'=>L'=bB b (aJ b 0) (.slice A n c) :: L∧G'=G):=by
 refine iB (N:=20) (T:=[(0,_)]) func169 O ntmps169 O O hO ?_;intro a H;refine kP H (SR fun _ K1=>Rm O (Rk O (aU ES FK 0 O O ?_)));clear H;intro a H;refine SV Dg H wn O O ?_;clear H;intro a H;refine K1 _ _ ?_;clear K1;refine jX H O ?_ ?_
 ·intro h6
  refine kP H (SC (Rm O (Rm O ?_)));clear H;intro a H;refine akx Dg Tw Lm H wn O 0 O O O ?_;clear H;intro a H;refine akv (xs:=[.tmp 9]) (ajl _) H wn O O ?_;clear H;intro a H;refine akr Tw Dg Lm H wn O 0 O axU O ?_;exact acV
 intro h6
 exact absurd h6 Q1
theorem apn (G:GH) (L:OL) (w0:World) (b:Nat) (A:Option Addr) (n c:Nat) (hO:fM G (bB b (aJ b 0) (.slice A n c) :: L) w0) :
  Calls prog 169 #[(aJ b 0)] w0 (fB w0 G (bB b (aJ b 0) (.slice A n c) :: L) fun u G' L'=>L'=bB b (aJ b 0) (.slice A n c) :: L∧G'=G):=by
 refine iB (N:=20) (T:=[(0,_)]) func169 O ntmps169 O O hO ?_;intro a H;refine kP H (SR fun _ K1=>Rm O (Rk O (aU ES FK 0 O O ?_)));clear H;intro a H;refine SV Dg H wn O O ?_;clear H;intro a H;refine K1 _ _ ?_;clear K1;refine jX H O ?_ ?_
 ·intro h6
  exact absurd h6 (by simp)
 intro h6
 refine kP H (SR fun _ K2=>Rm O (Rk O (aU ES FK 0 O O (Rm O ?_))));clear H;intro a H;refine aku Dg Lm H wn O O O ?_;clear H;intro a H;refine K2 _ _ ?_;clear K2;refine jX H O ?_ ?_
 ·intro h19
  exact absurd h19 Q1
 intro h19
 refine gT ?_;refine (leave0 H results169 ?_).2;exact PS
theorem apo (G:GH) (L:OL) (w0:World) (b:Nat) (p:ah) (A:Option Addr) (n c:Nat) (hp:p=.pointer none∨p=(aJ b 0)) (hO:fM G (bB b p (.slice A n c) :: L) w0) :
  Calls prog 169 #[(aJ b 0)] w0 (fB w0 G (bB b p (.slice A n c) :: L) fun u G' L'=>L'=bB b (aJ b 0) (.slice A n c) :: L∧G'=G):=by
 rcases hp with rfl|rfl
 ·exact apm G L w0 b A n c hO
 exact apn G L w0 b A n c hO
theorem aCP (G:GH) (Lo:OL) (w0:World) (b:Nat) (p v:ah) (n:Nat) (xs:List ah) (s:ByteArray) (hp:p=.pointer none∨p=(aJ b 0)) (hO:fM G (bB b p v :: Lo) w0) (hrow:bV 5 1 v n xs Lo) (hn:n+s.size<=140737488355328) :
  Calls prog 89 #[(aJ b 0),.string s] w0 (fB w0 G (bB b p v :: Lo) fun u G' L'=>∃ v' gG,L'=bB b (aJ b 0) v' :: gG∧bV 5 1 v' (n+s.size) (xs++Lib.strCells s) gG∧G'=G):=by
 obtain ⟨A,c,rfl,-,-⟩:=hrow.shape;refine iB (N:=19) (T:=[(0,_),(1,_)]) func89 O ntmps89 O O hO ?_;intro a H;refine kP H (SR fun _ K1=>Ra O (au K1 O (SR fun _ K2=>Rm O ?_)));clear H K1;intro a H;refine gD aeQ (Li:=[]) (L:=bB b p _ :: Lo) H wn O (apo _ _ _ b p A n c hp (Hp.owns (Li:=[]) H.hp)) O ?_;clear H;rintro v7 _ L7 a w ⟨rfl,rfl⟩ Cu H;dsimp only [List.nil_append] at H;refine K2 _ _ ?_;clear K2;refine kP H (SR fun _ K3=>Rm O (Rm O (Rk O (aU Ck Db 0 O O (Rm O ?_)))));clear H;intro a H;refine aAN (Li:=[_]) (Lo:=Lo) Ew iI u8B H wn O O hrow hn O ?_;clear H;intro v14 aan a w Fw H;obtain ⟨TP,c14,rfl,-,-⟩:=Fw.shape;refine kH H (Rk O (Rf Ck O ?_));clear H;intro a H;refine bM Db 0 (vs:=[_]) H wn O ?_;clear H;intro w H;refine K3 _ _ ?_;clear K3;refine kP H (SR fun _ K4=>Rm O (Rv iI O (Ra O (au K4 O ?_))));clear H K4;intro a H;refine gu ?_;refine (jQ H results89 (.cons (fE H O) (.cons (fE H O) .nil)) ?_).1;exact H.hp.gI ⟨_,_,O,Fw,O⟩
theorem acB {p:Prop} (h:p:=by
 refine gX 3 6 O O fun _ a w G1 hG HT H fin=>?_;refine aA7 H wn O V O ?_;exact iX):p:=h
theorem aB3 (G:GH) (Lo:OL) (w0:World) (b:Nat) (p v:ah) (l:List UInt8) (hO:fM G (bB b p v :: Lo) w0) (hrow:bV 5 1 v l.length (Lib.byteCells l) Lo) (h0:l≠[]) :
  Calls prog 90 #[(aJ b 0)] w0 (fB w0 G (bB b p v :: Lo) fun u G' L'=>u=.string ⟨l.toArray⟩):=by
 rcases hrow.2 with ⟨-,h,-⟩|⟨b2,cap,cur,rfl,rfl,hc1,hc2,hc3,hc4⟩
 ·exact absurd (List.eq_nil_of_length_eq_zero h) h0
 have hl0:l.length≠0:=fun h=>h0 (List.eq_nil_of_length_eq_zero h);have hml:maxLen=9223372036854775807:=rfl;refine iB (N:=14) (T:=[(0,_)]) func90 O ntmps90 O O hO ?_;intro a H;refine kP H (SR fun _ K1=>au K1 O (SQ fun _ K2=>?_));clear H K1;intro a H;have H:=H.sub (T':=[(0,_)]) ⟨O,aB⟩;refine dI hmx [[],[0],[0,1],[0,1,2],ra 0 4,[],[5],[5,6],[5,6,7],ra 5 4,ra 0 10,ra 0 11] [10,11] Z [_,_,_,.slice (some ⟨b2,0,none⟩) l.length cap,(aJ b2 0),_,_,_,.slice (some ⟨b2,0,none⟩) l.length cap,_] H (aC (Z0 O (Rm O)) (Z1 0 3 O (Rk O)) (Z1 1 4 O (Rf Ck O)) (Z1 2 5 O (Ro Db 0 O)) (aC ?_ (Z0 O (Rm O)) (Z1 5 8 O (Rk O)) (Z1 6 9 O (Rf Ck O)) (aC (Z1 7 10 O (Ro Db 0 O)) (Z1 8 11 O (Rl Ew O)) (bQ O) (bQ O) dG))) ?_
 ·exact acB
 clear H;intro a w G jA H hv;have H:=H.aQ (hv 4 7 O O) O;have H:=H.aQ (hv 9 12 O O) O;clear hv;refine aky (i:=1) l alm adN h0 V H wn O O O (by rw [<- hc4,Nat.mul_one]) O ?_;clear H;intro fz a w H;dsimp only [List.set] at H;refine kH H (Ra O ?_);clear H;intro a H;refine aF ⟨O,?_⟩;refine K2 _ _ ?_;clear K2;refine lr H results90 O ?_;exact H.hp.gI O
theorem asS:dz prog 275 0 0:=⟨Z⟩
theorem ari:aW 234:=aY func234 O
theorem Tq:prog.underlying 284=some (.int .u64):=by kernel_rfl
theorem arh:aW 233:=aY func233 O
theorem adL (G:GH) (w0:World) (hG:Hold G w0) (x:jT) (t:Int):tY prog (.func (.func 233) #[] #[]) [.agg x.cells.toArray,vi t] w0 (bG w0 G fun u G'=>u=vi (DC x.num t)):=by
 refine kG (caps:=[]) arh ?_;refine eN [(0,_),(1,_)] func233 O ntmps233 O O hG ?_;intro a H;refine dH (fun _ K1=>?_);refine eB (cs:=[_,_,_,_,_,_]) H wn O O O ?_;clear H;intro b2 a w hb2 H;refine kH H (au K1 O (SR fun _ K2=>aU asS aD 0 O O (Rm O ?_)));clear H K1;intro a H;refine s_call ari H wn O (apf _ _ H.ro x.num t) O ?_;clear H;rintro v8 G8 a w rfl Cv H;exact kH H (au K2 O (LR results233 O fun H=>H.rt O))
theorem anT (G:GH) (w0:World) (hG:Hold G w0) (l:List jT) (t:Int) (v:ah) (hv:av G (.sl 6 (l.map jT.dat)) v) (hl:l.length<=4294967296) :
  Calls prog 232 #[v,vi t,.func (.func 233) #[] #[]] w0 (bG w0 G fun u G'=>u=.tuple #[vi (ql (l.map jT.num) t),.bool (xK (l.map jT.num) t)]):=by
 obtain ⟨A,c,rfl,hc1,hc2,-⟩:=hv.slice;rw [bR] at *;obtain ⟨p,hp⟩:∃ p:Nat->Bool,p=fun h=>decide (¬ (l.map jT.num).getD h 0 < t):=⟨_,O⟩
 have hbs:ql (l.map jT.num) t=mZ p l.length 0 l.length:=by rw [hp,ql,bR]
 refine eN [(0,_),(1,_),(2,_)] func232 O ntmps232 O O hG ?_;intro a H;refine kP H (SR fun _ K1=>Ra O (au K1 O (SR fun _ K2=>Rm O (Rl OG O (au K2 O (SR fun _ K3=>Rm O (Ra O (au K3 O (SQ fun _ K4=>SB ?_)))))))));clear H K1 K2 K3;intro a H;skip;refine eO (ι:=Nat × Nat × Nat × GH) (Tc:=[(0,_),(1,_),(2,_),(8,_)]) (Lc:=[]) (fun gh=>[(9,vi gh.1),(10,vi gh.2.1)]) (fun gh=>[]) (fun gh=>gh.2.2.2) (fun gh=>gh.1<=gh.2.1∧gh.2.1<=l.length∧gh.2.1 - gh.1<=gh.2.2.1∧mZ p gh.2.2.1 gh.1 gh.2.1=ql (l.map jT.num) t∧(∀ b o,G b=some o->gh.2.2.2 b=some o)) (fun gh=>gh.2.1 - gh.1) ((0,l.length,l.length,G)) (by exact H.sub ⟨O,O,O,O,O,O,aB⟩) ?_ ?_
 ·exact ⟨jL _,fD _,Nat.sub_le _ _,hbs.symm,fun _ _ h=>h⟩
 clear H;rintro ⟨i,j,f,g⟩ a w hI H;dsimp only at hI H;obtain ⟨hij,hj,hf1,heq,hgm⟩:=hI;have Ig:=hv.mono hgm;dsimp only [lca,bD] at H;refine kP H (SQ fun _ K5=>SR fun _ K6=>Rm O (Rm O (Rc O (Kz K6 (Cd O ?_ ?_))))) <;> clear H K6
 ·intro cK a H
  try have kI:=dT cK
  have hlt:i < j:=by omega
  rw [ahU hf1 hlt] at heq;obtain ⟨m,hm⟩:∃ m,m=(i+j) / 2:=⟨_,O⟩;rw [<- hm] at heq
  have hml:m < l.length:=by omega
  obtain ⟨b,o,rfl,hrow⟩:=Yv Ig hml
  have hpm:p m=decide (¬ l[m].num < t):=by rw [hp];dsimp only;rw [getD_map hml]
  rw [hpm] at heq;refine kP H (Kc K5 (SB (SR fun _ K7=>Rm O (Rm O (Rd O ?_)))));clear H K5;intro a H;rw [show ((i:Int)+(j:Int))=((i+j:Nat):Int) by push_cast;rfl] at H;refine FD ((i+j:Nat):Int) Tq mQ H wn O (ahV V V) O ?_;clear H;intro a H;refine ZG _ H wn O O O Q1 O ?_;clear H;intro a H;rw [ahT,<- hm] at H;refine FD (m:Int) mQ Tq H wn O (Ii V V) O ?_;clear H;intro a H;refine kH H (au K7 O (SR fun _ K8=>Rm O (Rm O (Rm O (Ri OG vY O O ?_)))));clear H K7;intro a H;refine bq vY (cs:=[_,_,_,_,_,_]) H wn O O (fun j v hj=>H.hp.aI (hrow j v hj)) O ?_;clear H;intro a H;refine kH H (Rm O ?_);clear H;intro a H;refine oL H wn O O (adL _ _ H.ro l[m] t) O ?_;clear H;rintro v30 EC a w rfl zZ H;refine kH H (Rc O (Kz K8 (Cd O ?_ ?_))) <;> clear H K8
  ·intro h31 a H
   try have p31:=dT h31
   rw [ay (by simpa using aeb.1 p31)] at heq;refine kP H (SC (Rm O (Rd O (Ra O ?_))));clear H;intro a H;refine aF ?_;refine dS ((m+1,j,f - 1,EC)) (by exact H.sub ⟨O,O,O,O,O,O,aB⟩) ?_
   (try dsimp only);exact ⟨V,hj,V,heq,fun b o h=>zZ b o (hgm b o h)⟩
  intro h31 a H
  try have p31:=dF h31
  rw [aH (by simpa using fun h=>p31 (aeb.2 h))] at heq;refine kP H (SC (Rm O (Ra O ?_)));clear H;intro a H;refine aF ?_;refine dS ((i,m,f - 1,EC)) (by exact H.sub ⟨O,O,O,O,O,O,aB⟩) ?_
  (try dsimp only);exact ⟨V,V,V,heq,fun b o h=>zZ b o (hgm b o h)⟩
 intro cK a H
 try have kI:=dF cK
 refine dX ?_;refine K4 _ _ ?_;clear K4;refine bP (fun _ K9=>?_);rw [ahS V] at heq;refine kP H (SC (Rm O (Rm O (Rm O (Rc O (Rm O (Sp 39 O ?_ ?_))))))) <;> clear H
 ·intro mY a H
  try have p39:=dT mY
  have hil:i < l.length:=by omega
  obtain ⟨b,o,rfl,hrow⟩:=Yv Ig hil;refine kH H (YM mY O (YM mY O (YM mY O (YI OG vY mY O O ?_))));clear H;intro a H;refine bq vY (cs:=[_,_,_,_,_,_]) H (wg H O O mY) O O (fun j v hj=>H.hp.aI (hrow j v hj)) O ?_;clear H;intro a H;refine kH H (YM mY O ?_);clear H;intro a H;refine oL H (wg H O O mY) O O (adL _ _ H.ro l[i] t) O ?_;clear H;rintro v46 G46 a w rfl avF H;refine kH H (YC mY O (Pt mY O (Ra O (aZ K9 O ?_))));clear H K9;intro a H;refine gu ?_;refine (jQ H results232 (.cons (fE H O) (.cons (fE H O) .nil)) ?_).1;exact H.rt (by rw [agH heq.symm (by rw [bR];omega),<- heq];simp)
 intro mY a H
 try have p39:=dF mY
 refine kH H (bg mY O (bg mY O (aR mY O (Pf mY O (Ra O (aZ K9 O ?_))))));clear H K9;intro a H;refine gu ?_;refine (jQ H results232 (.cons (fE H O) (.cons (fE H O) .nil)) ?_).1;exact H.rt (by rw [agI heq.symm (by rw [bR];omega),<- heq])
theorem Tm:Ty prog 56 2 16 [.int .i64 0,.int .i64 0] true:=⟨Z,Z⟩
theorem ZL:qW prog 56 [(0,1),(1,1)] [.int .i64 0,.int .i64 0]:=⟨Z,Z⟩
theorem aeR:aW 174:=aY func174 O
def uW (fv:ah) (G:GH) (d:List Dat) (b:Bool):Prop:=∀ (G1:GH) (w1:World) (cs:List ah),(∀ b o,G b=some o->G1 b=some o)->Hold G1 w1->aX G1 d cs ->
 tY prog fv [.agg cs.toArray] w1 (bG w1 G1 fun u G'=>u=.bool b)
def nO (o:Option Nat):Int:=match o with|some i=>i|none=>-1
theorem zN {p:Prop} (h:p:=by
 first
  | exact H.rt (by rw [Yo hk2 hno h16];rfl)
  | exact H.rt (by rw [show l.take k=l from lU V] at hno;rw [hno];rfl)):p:=h
theorem abl {p:Prop} (h:p:=by
 exact ⟨V,ain hk2 hno h16,fun b o h=>zX b o (hgm b o h)⟩):p:=h
theorem JA {p:Prop} (h:p:=by
 intro h16
 try have p16:=dF h16
 refine kP H (Kc K6 (SC (Rd O (Rm O ?_))));clear H K6;intro a H;refine aF ?_;refine dS ((k+1,yj)) (by exact H.sub ⟨O,O,O,O,aB⟩) ?_
 (try dsimp only);exact abl):p:=h
theorem air (G:GH) (w0:World) (hG:Hold G w0) (l:List aM) (p:aM->Bool) (v fv:ah) (hv:av G (.sl 6 (l.map aM.dat)) v) (hf:∀ x∈l,uW fv G x.dat (p x)) :
  Calls prog 174 #[v,fv] w0 (bG w0 G fun u G'=>u=vi (nO (l.findIdx? p))):=by
 obtain ⟨A,c,rfl,hc1,hc2,hg⟩:=hv.slice;have hml:maxLen=9223372036854775807:=rfl;rw [bR] at *;refine eN [(0,_),(1,_)] func174 O ntmps174 O O hG ?_;intro a H;refine kP H (SR fun _ K1=>au K1 O (SQ fun _ K2=>SR fun _ K3=>Rm O (Rl jS O (Rm O (Kz K3 (SB ?_))))));clear H K1 K3;intro a H;skip;refine eO (ι:=Nat × GH) (Tc:=[(0,_),(1,_),(7,_)]) (Lc:=[]) (fun gh=>[(8,vi gh.1)]) (fun gh=>[]) (fun gh=>gh.2) (fun gh=>gh.1<=l.length∧(l.take gh.1).findIdx? p=none∧(∀ b o,G b=some o->gh.2 b=some o)) (fun gh=>l.length - gh.1) ((0,G)) (by exact H.sub ⟨O,O,O,O,aB⟩) ?_ ?_
 ·exact yE
 clear H;rintro ⟨k,g⟩ a w hI H;dsimp only at hI H;obtain ⟨hk,hno,hgm⟩:=hI;dsimp only [lca,bD] at H;refine kP H (SR fun _ K4=>Rc O (Kz K4 (SQ fun _ K5=>Cd O ?_ ?_))) <;> clear H K4
 ·intro h9 a H
  try have p9:=dT h9
  have hk2:k < l.length:=by omega
  obtain ⟨b,o,cs,rfl,hcl,hrow,hrep⟩:=hg k l[k].dat (by simp [hk2]);obtain ⟨pA,pn,pc,dA,dn,dc,yA,yn,yc,fA,fn,fc,rfl,-⟩:=hrep.row;replace hrow:=fun j u hj=>aK hgm (hrow j u hj);refine kP H (Kc K5 (SQ fun _ K6=>SB (SR fun _ K7=>Rm O (au K7 O (SR fun _ K8=>Rm O (Rm O (Rm O (Ri jS ig O O ?_))))))));clear H K5 K7;intro a H;refine bq ig (cs:=[_,_,_,_,_,_]) H wn O O (fun j v hj=>H.hp.aI (hrow j v hj)) O ?_;clear H;intro a H;refine oL H wn O O (hf _ (jl hk2) _ _ _ hgm H.ro (hrep.mono hgm)) O ?_;clear H;rintro v16 yj a w rfl zX H;refine K8 _ _ ?_;clear K8;refine jX H O ?_ ?_
  ·intro h16
   try have p16:=dT h16
   refine kP H (SR fun _ K9=>Rm O (au K9 O ?_));clear H K9;intro a H;refine lr H results174 O ?_
   exact zN
  exact JA
 intro h9 a H
 try have p9:=dF h9
 refine dX ?_;refine K2 _ _ ?_;clear K2;refine kP H (SR fun _ aT=>au aT O ?_);clear H aT;intro a H;refine lr H results174 O ?_
 exact zN
theorem ard:aW 231:=aY func231 O
theorem arf:aW 232:=aY func232 O
theorem uT:prog.underlying 46=some (.slice 3):=by kernel_rfl
theorem aqo:aW 166:=aY func166 O
theorem aeS:aW 182:=aY func182 O
theorem aqv:aW 183:=aY func183 O
theorem asT:dz prog 275 1 1:=⟨Z⟩
theorem afm:aW 76:=aY func76 O
theorem asU:dz prog 275 2 2:=⟨Z⟩
theorem asV:dz prog 275 3 3:=⟨Z⟩
def kz:jT:=⟨0,0,0,0,0,⟨#[]⟩⟩
def Ik:List Int:=Il.map jT.num
def vC (k:Int):jT × Bool:=if xK Ik k=true then (Il.getD (ql Ik k) kz,true) else (kz,false)
theorem find_spec (G:GH) (w0:World) (hG:Hold G w0) (k:Int):Calls prog 182 #[vi k] w0 (bG w0 G fun u G'=>u=.tuple #[.agg (vC k).1.cells.toArray,.bool (vC k).2]):=by
 refine eN [(0,_)] func182 O ntmps182 O O hG ?_;intro a H;refine dH (fun _ K1=>?_);refine dR vY H wn O ?_;clear H;intro b2 a w hb2 H;refine kH H (au K1 O (SR fun _ K2=>?_));clear H K1;intro a H;refine s_call ard H wn O (axI _ _ H.ro) O ?_;clear H;rintro v7 G7 a w hv7 Cu H;obtain ⟨A,c,rfl,hc1,hc2,-⟩:=hv7.slice;rw [bR] at *;refine kH H (au K2 O (SR fun _ K3=>Rm O (Rm O ?_)));clear H K2;intro a H;refine s_call arf H wn O (anT _ _ H.ro Il k _ hv7 Q1) O ?_;clear H;rintro v11 Dl a w rfl Rh H;have hv7:=hv7.mono Rh;have hkn:Il.map jT.num=Ik:=rfl;rw [hkn] at H;obtain ⟨n,hn⟩:∃ n,n=ql Ik k:=⟨_,O⟩;obtain ⟨q,hq⟩:∃ q,q=xK Ik k:=⟨_,O⟩;rw [<- hn,<- hq] at H;refine kH H (Rm O ?_);clear H;intro a H;(iterate 2 refine ko H wn O O O ?_;clear H;intro a H);refine kH H (Ra O (au K3 O (SQ fun _ K4=>SR fun _ K5=>Rm O (Rn O (Kz K5 (Cd O ?_ ?_)))))) <;> clear H K3 K5
 ·intro oC a H
  refine dH (fun _ K6=>?_);refine kg akS [_,_,_,_,_,_] H wn O O O O ?_;clear H;intro a H;refine bM vY 0 (vs:=[_,_,_,_,_,_]) H wn O ?_;clear H;intro w H;refine kH H (au K6 O ?_);clear H K6;intro a H;refine gu ?_;refine (jQ H results182 (.cons (vX vY (cs:=[_,_,_,_,_,_]) H O O (H.hp.dD 0 O O)) (.cons (fE H O) .nil)) ?_).1;exact H.rt (by rw [vC,ay (by rw [<- hq];simpa using oC)];rfl)
 intro oC a H
 try have uL:=dF oC
 have hlt:n < Il.length:=by have:=auG (ks:=Ik) (t:=k) (by rw [<- hq];simpa using oC);rw [<- hn] at this;simpa [Ik] using this
 obtain ⟨b,o,rfl,hrow⟩:=Yv hv7 hlt;refine kP H (Kc K4 (SR fun _ K7=>Rm O (Rm O (Ri OG vY O O ?_))));clear H K4;intro a H;refine bq vY (cs:=[_,_,_,_,_,_]) H wn O O (fun j v hj=>H.hp.aI (hrow j v hj)) O ?_;clear H;intro a H;refine bM vY 0 (vs:=[_,_,_,_,_,_]) H wn O ?_;clear H;intro w H;refine kH H (au K7 O ?_);clear H K7;intro a H;refine gu ?_;refine (jQ H results182 (.cons (vX vY (cs:=[_,_,_,_,_,_]) H O O (H.hp.dD 0 O O)) (.cons (fE H O) .nil)) ?_).1;exact H.rt (by rw [vC,aH (by rw [<- hq];simpa using oC),<- hn,List.getD_eq_getElem?_getD,fF hlt];rfl)
def Bb (e:Int):List Int:=if e=1∨e=4∨e=5∨e=6 then [1] else if e=2 then [1,2] else if e=3 then [3] else if e=7 then [6] else if e=9 then [4] else if e=10 then [5] else []
theorem Fz (G:GH) (A:List Int):bT G 1 (A.map fun k=>[li k]) (A.map vi):=by
 refine ⟨A.map fun k=>[vi k],?_,by simp,fun j r cs hr hc=>?_⟩
 ·induction A with
  | nil=>rfl
  | cons a A ih=>simpa using ih
 rw [pJ] at hr hc
 cases h:A[j]? with
 | none=>rw [h] at hr;cases hr
 | some x =>
  rw [h] at hr hc
  cases hr;cases hc
  exact ⟨by simp only [aX];exact ⟨_,_,O,by simp [av,Value.oneCell'],O⟩,O⟩
theorem Cj {p:Prop} (h:p:=by
 first
  | exact H.rt (by rw [Bb,cu,cu,cu,cu,cu,cu];exact av.og O Q1)
  | (obtain ⟨Gz,hmz,hbz,H⟩:=H.fJ
     first
       | exact H.rt (by rw [Bb,jZ];exact av.vU (n:=1) (cap:=1) hbz O (fD _) (show 1<=maxLen by decide) rfl (Fz _ [1]))
       | exact H.rt (by rw [Bb,cu,jZ];exact av.vU (n:=2) (cap:=2) hbz O (fD _) (show 2<=maxLen by decide) rfl (Fz _ [1,2]))
       | exact H.rt (by rw [Bb,cu,cu,jZ];exact av.vU (n:=1) (cap:=1) hbz O (fD _) (show 1<=maxLen by decide) rfl (Fz _ [3]))
       | exact H.rt (by rw [Bb,cu,cu,cu,jZ];exact av.vU (n:=1) (cap:=1) hbz O (fD _) (show 1<=maxLen by decide) rfl (Fz _ [6]))
       | exact H.rt (by rw [Bb,cu,cu,cu,cu,jZ];exact av.vU (n:=1) (cap:=1) hbz O (fD _) (show 1<=maxLen by decide) rfl (Fz _ [4]))
       | exact H.rt (by rw [Bb,cu,cu,cu,cu,cu,jZ];exact av.vU (n:=1) (cap:=1) hbz O (fD _) (show 1<=maxLen by decide) rfl (Fz _ [5])))):p:=h
theorem atM (G:GH) (w0:World) (hG:Hold G w0) (e:Int):Calls prog 183 #[vi e] w0 (bG w0 G fun u G'=>av G' (.sl 1 ((Bb e).map fun k=>[li k])) u):=by
  refine eN [(0,_)] func183 O ntmps183 O O hG ?_;intro a H;refine kP H (SR fun _ K1=>au K1 O (SQ fun _ K2=>SR fun _ K3=>Rm O (Kz K3 (SB (SQ fun _ K4=>SR fun _ K5=>Rc O (au K5 O (Cd O ?_ ?_))))))) <;> clear H K1 K3 K5
  · intro h4 a H
    try have p4:=dT h4
    refine kP H (Kc K4 (Ct O h4 (SR fun _ K6=>?_)));clear H K4;intro a H;refine iG uT aD [_] [_] H wn O O O O O (by intro i q h;match i,h with|0,h=>exact h|n+1,h=>simp at h) O O ?_;clear H;intro b9 a w uG H;refine kH H (au K6 O ?_);clear H K6;intro a H;refine lr H results183 O ?_
    exact Cj
  intro h4 a H
  try have p4:=dF h4
  refine kP H (SR fun _ K7=>Rc O (au K7 O (Cd O ?_ ?_))) <;> clear H K7
  · intro h4 a H
    try have p4:=dT h4
    refine kP H (Kc K4 (Ct O h4 (SR fun _ K8=>?_)));clear H K4;intro a H;refine iG uT aD [_] [_] H wn O O O O O (by intro i q h;match i,h with|0,h=>exact h|n+1,h=>simp at h) O O ?_;clear H;intro b9 a w uG H;refine kH H (au K8 O ?_);clear H K8;intro a H;refine lr H results183 O ?_
    exact Cj
  intro h4 a H
  try have p4:=dF h4
  refine kP H (SR fun _ K9=>Rc O (au K9 O (Cd O ?_ ?_))) <;> clear H K9
  · intro h4 a H
    try have p4:=dT h4
    refine kP H (Kc K4 (Ct O h4 (SR fun _ aT=>?_)));clear H K4;intro a H;refine iG uT aD [_] [_] H wn O O O O O (by intro i q h;match i,h with|0,h=>exact h|n+1,h=>simp at h) O O ?_;clear H;intro b9 a w uG H;refine kH H (au aT O ?_);clear H aT;intro a H;refine lr H results183 O ?_
    exact Cj
  intro h4 a H
  try have p4:=dF h4
  refine kP H (SC (Rc O (aZ K4 O (Cd O ?_ ?_)))) <;> clear H K4
  · intro h4 a H
    try have p4:=dT h4
    refine dH (fun _ bJ=>?_);refine iG uT aD [_] [_] H wn O O O O O (by intro i q h;match i,h with|0,h=>exact h|n+1,h=>simp at h) O O ?_;clear H;intro b9 a w uG H;refine kH H (au bJ O ?_);clear H bJ;intro a H;refine lr H results183 O ?_
    exact Cj
  intro h4 a H
  try have p4:=dF h4
  refine kP H (SR fun _ bO=>Rc O (au bO O (Cd O ?_ ?_))) <;> clear H bO
  · intro h10 a H
    try have kN:=dT h10
    refine dH (fun _ bU=>?_);refine iG uT aD [_,_] [_,_] H wn O O O O O (by intro i q h;match i,h with|0,h=>exact h|1,h=>exact h|n+2,h=>simp at h) O O ?_;clear H;intro b12 a w D9 H;refine kH H (au bU O ?_);clear H bU;intro a H;refine lr H results183 O ?_
    exact Cj
  intro h10 a H
  try have kN:=dF h10
  refine kP H (SR fun _ bZ=>Rc O (au bZ O (Cd O ?_ ?_))) <;> clear H bZ
  · intro fT a H
    try have pz:=dT fT
    refine dH (fun _ dP=>?_);refine iG uT aD [_] [_] H wn O O O O O (by intro i q h;match i,h with|0,h=>exact h|n+1,h=>simp at h) O O ?_;clear H;intro b15 a w auK H;refine kH H (au dP O ?_);clear H dP;intro a H;refine lr H results183 O ?_
    exact Cj
  intro fT a H
  try have pz:=dF fT
  refine kP H (SR fun _ dY=>Rc O (au dY O (Cd O ?_ ?_))) <;> clear H dY
  · intro h16 a H
    try have p16:=dT h16
    refine dH (fun _ dQ=>?_);refine iG uT aD [_] [_] H wn O O O O O (by intro i q h;match i,h with|0,h=>exact h|n+1,h=>simp at h) O O ?_;clear H;intro b18 a w QW H;refine kH H (au dQ O ?_);clear H dQ;intro a H;refine lr H results183 O ?_
    exact Cj
  intro h16 a H
  try have p16:=dF h16
  refine kP H (SR fun _ eX=>Rc O (au eX O (Cd O ?_ ?_))) <;> clear H eX
  · intro h19 a H
    try have wS:=dT h19
    refine dH (fun _ gM=>?_);refine iG uT aD [_] [_] H wn O O O O O (by intro i q h;match i,h with|0,h=>exact h|n+1,h=>simp at h) O O ?_;clear H;intro b21 a w aDm H;refine kH H (au gM O ?_);clear H gM;intro a H;refine lr H results183 O ?_
    exact Cj
  intro h19 a H
  try have wS:=dF h19
  refine kP H (SR fun _ fI=>Rc O (au fI O (Cd O ?_ ?_))) <;> clear H fI
  · intro h22 a H
    try have oI:=dT h22
    refine dH (fun _ gQ=>?_);refine iG uT aD [_] [_] H wn O O O O O (by intro i q h;match i,h with|0,h=>exact h|n+1,h=>simp at h) O O ?_;clear H;intro b24 a w aDp H;refine kH H (au gQ O ?_);clear H gQ;intro a H;refine lr H results183 O ?_
    exact Cj
  intro h22 a H
  try have oI:=dF h22
  refine kP H (Kc K2 (SR fun _ jw=>au jw O ?_));clear H K2 jw;intro a H;refine lr H results183 O ?_
  exact Cj
theorem axr {G:GH} {l:List Int} {A:Option Addr} {n c k:Nat} (hv:av G (.sl 1 (l.map fun k=>[li k])) (.slice A n c)) (hk:k < l.length):∃ b o,A=some ⟨b,o,none⟩∧aI G b (o+k*1)=some (vi l[k]):=by
 obtain ⟨A',c',he,_,_,hg⟩:=hv.slice
 injection he with e1 e2 e3
 subst e1;obtain ⟨b,o,cs,h1,h2,h3,h4⟩:=hg k [li l[k]] (by simp [hk])
 simp only [aX,av] at h4
 obtain ⟨v1,_,rfl,⟨rfl,-⟩,rfl⟩:=h4;exact ⟨b,o,h1,h3 0 _ O⟩
theorem Js {p:Prop} (h:p:=by
 exact ⟨jL _,O⟩):p:=h
theorem axl (G:GH) (w0:World) (hG:Hold G w0) (l:List Int) (t:Int) (v:ah) (hv:av G (.sl 1 (l.map fun k=>[li k])) v) :
  Calls prog 166 #[v,vi t] w0 (bG w0 G fun u G'=>u=vi (nO (l.findIdx? fun x=>decide (t=x)))):=by
 obtain ⟨A,c,rfl,hc1,hc2,-⟩:=hv.slice;have hml:maxLen=9223372036854775807:=rfl;rw [bR] at *;refine eN [(0,_),(1,_)] func166 O ntmps166 O O hG ?_;intro a H;refine kP H (SR fun _ K1=>au K1 O (SQ fun _ K2=>SR fun _ K3=>Rm O (Rl uT O (Rm O (Kz K3 (SB ?_))))));clear H K1 K3;intro a H;skip;refine eO (ι:=Nat) (Tc:=[(0,_),(1,_),(7,_)]) (Lc:=[]) (fun gh=>[(8,vi gh)]) (fun gh=>[]) (fun gh=>G) (fun gh=>gh<=l.length∧(l.take gh).findIdx? (fun x=>decide (t=x))=none) (fun gh=>l.length - gh) (0) (by exact H.sub ⟨O,O,O,O,aB⟩) ?_ ?_
 ·exact Js
 clear H;intro k a w hI H;obtain ⟨hk,hno⟩:=hI;dsimp only [lca,bD] at H;refine kP H (SR fun _ K4=>Rc O (Kz K4 (SQ fun _ K5=>Cd O ?_ ?_))) <;> clear H K4
 ·intro h9 a H
  try have p9:=dT h9
  have hk2:k < l.length:=by omega
  obtain ⟨b,o,rfl,hrow⟩:=axr hv hk2;refine kP H (Kc K5 (SQ fun _ K6=>SB (SR fun _ K7=>Rm O (au K7 O (SR fun _ K8=>Rm O (Rm O (Rm O (Ri uT aD O O (Rg aD O (by assumption) ?_)))))))));clear H K5 K7;intro a H;refine kH H (Rc O (Kz K8 (Cd O ?_ ?_))) <;> clear H K8
  ·intro h16 a H
   try have p16:=dT h16
   exact kP H (SR fun _ K9=>Rm O (au K9 O (LR results166 O fun H=>H.rt (by rw [Yo hk2 hno (by simpa using p16)];rfl))))
  intro h16 a H
  try have p16:=dF h16
  refine kP H (Kc K6 (SC (Rd O (Rm O ?_))));clear H K6;intro a H;refine aF ?_;refine dS ((k+1)) (by exact H.sub ⟨O,O,O,O,aB⟩) ?_
  exact ⟨V,ain hk2 hno (by simpa using p16)⟩
 intro h9 a H
 try have p9:=dF h9
 refine dX ?_;refine K2 _ _ ?_;clear K2;exact kP H (SR fun _ aT=>au aT O (LR results166 O fun H=>H.rt (by rw [show l.take k=l from lU V] at hno;rw [hno];rfl)))
theorem aeg (G:GH) (w0:World) (hG:Hold G w0) (l:List Int) (t:Int) (v:ah) (hv:av G (.sl 1 (l.map fun k=>[li k])) v) :
  Calls prog 76 #[v,vi t] w0 (bG w0 G fun u G'=>u=.bool (decide (t∈l))):=by
 obtain ⟨A,c,rfl,hc1,hc2,-⟩:=hv.slice;rw [bR] at *;refine eN [(0,_),(1,_)] func76 O ntmps76 O O hG ?_;intro a H;refine kP H (SR fun _ K1=>au K1 O (SR fun _ K2=>Rm O (Rm O ?_)));clear H K1;intro a H;refine s_call aqo H wn O (axl _ _ H.ro l t _ hv) O ?_;clear H;rintro v7 G7 a w rfl Cu H;refine kH H (Rc O (au K2 O ?_));clear H K2;intro a H;refine lr H results76 O ?_
 exact H.rt (by
  congr 1
  cases h:l.findIdx? (fun x=>decide (t=x)) with
  | none =>
   rw [List.findIdx?_eq_none_iff] at h;have:t∉l:=fun hm=>absurd (h t hm) (by simp)
   simp [nO,this]
  | some i =>
   obtain ⟨hi,he,-⟩:=List.findIdx?_eq_some_iff_getElem.1 h
   have:t∈l:=by rw [pK he];exact jl _
   simp [nO,this])
def EX (e k:Int):Bool:=(vC k).2 && decide ((vC k).1.J3∈Bb e)
theorem abm {p:Prop} (h:p:=by
 exact kH H (Rm O fun _ H=>fin H iJ O)):p:=h
theorem EJ {p:Prop} (h:p:=by
 exact H.rt O):p:=h
theorem abn {p:Prop} (h:p:=by
 exact fin H iJ (by show _=_;simp)):p:=h
theorem EL {p:Prop} (h:p:=by
 intro bC a w G1 hG HT H fin;exact abm):p:=h
theorem agb (G:GH) (w0:World) (hG:Hold G w0) (e k:Int):Calls prog 105 #[vi e,vi k] w0 (bG w0 G fun u G'=>u=.bool (EX e k)):=by
 refine eN [(0,_),(1,_)] func105 O ntmps105 O O hG ?_;intro a H;refine kP H (SR fun _ K1=>au K1 O (SR fun _ K2=>Rm O ?_));clear H K1;intro a H;refine s_call aeS H wn O (find_spec _ _ H.ro k) O ?_;clear H;rintro v9 G9 a w rfl yY H;dsimp only [jT.cells] at H;refine kH H (Rm O ?_);clear H;intro a H;(iterate 2 refine ko H wn O O O ?_;clear H;intro a H);refine dR vY H wn O ?_;clear H;intro b5 a w hb5 H;refine bM vY 0 (vs:=[_,_,_,_,_,_]) H wn O ?_;clear H;intro w H;refine kH H (au K2 O (SQ fun _ K3=>?_));clear H K2;intro a H
 by_cases c0:(vC k).2=true
 ·skip
  have sG:wu (fun (dK:Nat) (v:ah) (G:GH)=>match dK with|0=>v=.bool (vC k).2|1=>v=.bool (decide ((vC k).2=true))|2=>v=vi e|3=>(vC k).2=true->av G (.sl 1 ((Bb e).map fun k=>[li k])) v|4=>v=(aJ b5 1)|5=>v=vi (vC k).1.J3|6=>v=.bool (decide ((vC k).1.J3∈Bb e))|7=>v=.bool (EX e k)|_=>True):=by intro dK v G G' hm h;(iterate 9 (rcases dK with _|dK;(first|exact h|exact fun hf=>(h hf).mono hm)));exact trivial
  refine xC (hmx) [[],[0],[0,1],[0,1,2],[0,1],[0,1,4],ra 0 6,ra 0 7,ra 0 8] [8] Z Z _ sG H ?_ ?_
  ·clear H;refine aC ?_ ?_ ?_ ?_ (aC ?_ ?_ ?_ ?_ (bK (bQ O) dG))
   ·refine dB [] O trivial Z sG O O ?_;exact EL
   ·refine dB [(0,12,_)] O ⟨fun _ _ h=>h,aB⟩ Z sG O O ?_;intro bC a w G1 hG HT H fin;refine kH H (Rm O ?_);clear H;intro a H;exact fin H iJ (by simp)
   ·refine dB [(1,13,_)] O ⟨fun _ _ h=>h,aB⟩ Z sG O O ?_;intro bC a w G1 hG HT H fin;exact kH H (YM (aG c0) O fun _ H=>fin H iJ O)
   ·refine dB [(2,14,_),(1,13,_)] O ⟨fun _ _ h=>h,fun _ _ h=>h,aB⟩ Z sG O O ?_;intro bC a w G1 hG HT H fin;refine s_call aqv H (wg H O O (aG c0)) O (atM _ _ H.ro e) O ?_;clear H;rintro v15 EB a w Fq Ht H;exact fin H Ht (by first|exact fun _=>Fq|rfl)
   ·refine dB [(1,13,_)] O ⟨fun _ _ h=>h,aB⟩ Z sG O O ?_;intro bC a w G1 hG HT H fin;exact kH H (YF asT (aG c0) O fun _ H=>fin H iJ O)
   ·refine dB [(4,16,_),(1,13,_)] O ⟨fun _ _ h=>h,fun _ _ h=>h,aB⟩ Z sG O O ?_;intro bC a w G1 hG HT H fin;exact kH H (YO aD 0 (aG c0) O fun _ H=>fin H iJ O)
   ·intro bC a w G1 _ aV hc hG HT hv;have H:=HT;clear aV;obtain ⟨u15,awS,Fq⟩:=hv 3 15 (hc 3 Q1) O;(try dsimp only at Fq);have H:=H.fV awS;have H:=H.aQ (hv 5 17 (hc 5 Q1) O) O;have H:=H.aQ (hv 1 13 (hc 1 Q1) O) O;have Hb:=H.full;have H:=Hb;clear hc;refine s_call afm H (wg H O O (aG c0)) O (aeg _ _ H.ro _ _ _ (Fq c0)) O ?_;clear H;rintro v18 O4 a w rfl atS H;refine aF ⟨O,?_⟩;exact pQ Z sG O O HT Hb hG hv atS (rfl) H
   refine dB [(1,13,_),(6,18,_)] O ⟨fun _ _ h=>h,fun _ _ h=>h,aB⟩ Z sG O O ?_;intro bC a w G1 hG HT H fin;refine kH H (Pt (aG c0) O ?_);clear H;intro a H;exact fin H iJ (by unfold EX;simp_all)
  clear H;intro a w G D8 H hv;have H:=H.aQ (hv 7 19 O O) O;clear hv;refine kH H (Ra O ?_);clear H;intro a H;refine aF ⟨O,?_⟩;refine K3 _ _ ?_;clear K3;refine lr H results105 O ?_;exact EJ
 skip;refine dI hmx [[],[0],[0,1],[0,1,2],[0,1],[0,1,4],ra 0 6,ra 0 7,ra 0 8] [8] Z [_,.bool (decide ((vC k).2=true)),undef,undef,undef,undef,undef,.bool (EX e k)] H (aC (Z0 O (Rm O)) ?_ (aO 1 (aS c0) O O) ?_ (aC (aO 1 (aS c0) O O) (aO 1 (aS c0) O O) (aO 1 (aS c0) O O) ?_ (bK (bQ O) dG))) ?_
 ·refine gX 0 12 O O fun _ a w G1 hG HT H fin=>?_;refine kH H (Rm O ?_);clear H;intro a H;exact abn
 ·intro bC a w G1 _ aV hc hG HT hv;have H:=HT;clear aV;have H:=H.aQ (hv 2 14 (hc 2 Q1) O) O;have H:=H.aQ (hv 1 13 (hc 1 Q1) O) O;have Hb:=H.full;have H:=Hb;clear hc;refine kH H (Ks (aS c0) O ?_);clear H;intro a H;refine aF ⟨O,?_⟩;exact pQ Z (fun _ _ _ _ _ h=>h) O O HT Hb hG hv (fun _ _ h=>h) (by first|exact fun _=>Fq|rfl) H
 ·refine eU 1 13 6 18 O O fun _ a w G1 hG HT H fin=>?_;refine kH H (Pf (aS c0) O ?_);clear H;intro a H;exact fin H iJ (by show _=_;unfold EX;simp_all)
 clear H;intro a w G D8 H hv;have H:=H.aQ (hv 7 19 O O) O;clear hv;refine kH H (Ra O ?_);clear H;intro a H;refine aF ⟨O,?_⟩;refine K3 _ _ ?_;clear K3;refine lr H results105 O ?_;exact EJ
def xD (k v:Int):Int:=if (vC k).2=false then 4 else if v < (vC k).1.low∨(vC k).1.high < v then 5 else 0
theorem adP (G:GH) (w0:World) (hG:Hold G w0) (k x:Int):Calls prog 106 #[vi k,vi x] w0 (bG w0 G fun u G'=>u=vi (xD k x)):=by
 refine eN [(0,_),(1,_)] func106 O ntmps106 O O hG ?_;intro a H;refine kP H (SR fun _ K1=>au K1 O (SR fun _ K2=>Rm O ?_));clear H K1;intro a H;refine s_call aeS H wn O (find_spec _ _ H.ro k) O ?_;clear H;rintro v9 G9 a w rfl yY H;dsimp only [jT.cells] at H;refine kH H (Rm O ?_);clear H;intro a H;(iterate 2 refine ko H wn O O O ?_;clear H;intro a H);refine dR vY H wn O ?_;clear H;intro b5 a w hb5 H;refine bM vY 0 (vs:=[_,_,_,_,_,_]) H wn O ?_;clear H;intro w H;refine kH H (au K2 O (SQ fun _ K3=>SB (SR fun _ K4=>Rm O (Rn O (au K4 O (Cd O ?_ ?_)))))) <;> clear H K2 K4
 ·intro h12 a H
  try have pq:=dT h12
  exact kP H (SR fun _ K5=>au K5 O (LR results106 O fun H=>H.rt (by unfold xD;simp_all)))
 intro h12 a H
 try have pq:=dF h12
 refine kP H (SR fun _ K6=>Rm O (aU asU aD 0 O O (Rc O (Rm O (Sp 20 O ?_ ?_))))) <;> clear H
 ·intro h20 a H
  try have BJ:=dT h20
  exact kH H (aR h20 O (aR h20 O (Pt h20 O (au K6 O (Ct O O (SR fun _ K7=>au K7 O (LR results106 O fun H=>H.rt (by unfold xD;simp_all))))))))
 intro h20 a H
 try have BJ:=dF h20
 refine kH H (YM h20 O (YF asV h20 O (YO aD 0 h20 O (YC h20 O (Pf h20 O (au K6 O (Cd O ?_ ?_))))))) <;> clear H K6
 ·intro oC a H
  try have uL:=dT oC
  exact kP H (SR fun _ K8=>au K8 O (LR results106 O fun H=>H.rt (by unfold xD;simp_all)))
 intro oC a H
 try have uL:=dF oC
 exact kP H (Kc K3 (SR fun _ K9=>au K9 O (LR results106 O fun H=>H.rt (by unfold xD;simp_all))))
theorem yP:dz prog 197 0 0:=⟨Z⟩
theorem aeH:aW 105:=aY func105 O
theorem afF:dz prog 197 1 1:=⟨Z⟩
theorem aeI:aW 106:=aY func106 O
def KO (q:Option Int) (k:Int):Bool:=match q with|some j=>decide (k < j)|none=>false
def Dy (e:Int):Option Int->List jf->Int
 | _,[]=>0
 | q,p :: r=>if EX e p.key=false then 4 else if q=some p.key then 7 else if KO q p.key=true then 6 else if xD p.key p.value=0 then Dy e (some p.key) r else xD p.key p.value
def BK (l:List jf) (k:Nat):Option Int:=if k=0 then none else l[k - 1]?.map jf.key
def qZ (e:Int) (l:List jf):Int:=if e < 1∨10 < e then 3 else Dy e none l
theorem aoF {e:Int} {l:List jf} {k:Nat} (h:k < l.length):Dy e (BK l k) (l.drop k)=if EX e l[k].key=false then 4 else if BK l k=some l[k].key then 7 else if KO (BK l k) l[k].key=true then 6 else if xD l[k].key l[k].value=0 then Dy e (BK l (k+1)) (l.drop (k+1)) else xD l[k].key l[k].value:=by
 rw [mW h,Dy]
 have:BK l (k+1)=some l[k].key:=by rw [BK,cu,Nat.add_sub_cancel,fF h];rfl
 rw [this]
theorem Sw {l:List jf} {k:Nat} (h:k=0):BK l k=none:=aH h
theorem abo {p:Prop} (h:p:=by
 first
  | exact H.rt (dh vi (by rw [ay (by simpa using p61)] at heq;rw [qZ,cu];exact heq))
  | exact H.rt (dh vi (by rw [aH (by simpa using h21)] at heq;rw [qZ,cu];exact heq))
  | exact H.rt (dh vi (by rw [qZ,cu];exact heq))
  | exact H.rt (dh vi (by rw [qZ,cu,<- heq,show l.drop k=[] from ow V];rfl))
  | exact H.rt (dh vi (by rw [qZ,jZ]))):p:=h
theorem EK {p:Prop} (h:p:=by
 exact ⟨jL _,O,fun _ _ h=>h⟩):p:=h
theorem UL {p:Prop} (h:p:=by
 exact fin H iJ (by show _=_;first|rfl|exact dh vi V)):p:=h
theorem anw {p:Prop} (h:p:=by
 exact ⟨V,h.symm⟩):p:=h
theorem anx {p:Prop} (h:p:=by
 exact ⟨V,pK h⟩):p:=h
theorem abp {p:Prop} (h:p:=by
 exact ⟨heq,fun b o h=>wM b o (vE b o (Fe b o h))⟩):p:=h
theorem zP {p:Prop} (h:p:=by
 refine BN _ H (wg H O O (aG c0)) O O O V V O ?_;clear H;intro a H;exact UL):p:=h
theorem Jy {p:Prop} (h:p:=by
 intro a H;refine lr H results102 O ?_
 exact abo):p:=h
theorem Qg {p:Prop} (h:p:=by
 rw [(hpk h0).2] at h
 injection h with h
 exact anw):p:=h
theorem P8 {p:Prop} (h:p:=by
 rw [(hpk h0).2] at h;exact anx):p:=h
theorem acw {p:Prop} (h:p:=by
 refine eU 9 51 2 44 O O fun _ a w G1 hG HT H fin=>?_;refine tQ aD H (wg H O O (aG c0)) O (H.hp.aI (aK hG (aK vE (aK Fe (hpk V).1)))) O ?_;exact iX):p:=h
theorem ajL (G:GH) (w0:World) (hG:Hold G w0) (e:Int) (l:List jf) (v:ah) (hv:av G (.sl 2 (l.map jf.dat)) v) :
  Calls prog 102 #[vi e,v] w0 (bG w0 G fun u G'=>u=vi (qZ e l)):=by
 obtain ⟨A,c,rfl,hc1,hc2,-⟩:=hv.slice;have hml:maxLen=9223372036854775807:=rfl;rw [bR] at *;refine eN [(0,_),(1,_)] func102 O ntmps102 O O hG ?_;intro a H;refine kP H (SR fun _ K1=>au K1 O (SQ fun _ K2=>SR fun _ K3=>Rm O (Rc O (Rm O (Sp 10 O ?_ ?_))))) <;> clear H K1
 ·intro h10 a H
  try have kN:=dT h10
  refine kH H (aR h10 O (Pt h10 O (Kz K3 (Ct O O (SR fun _ K4=>au K4 O ?_)))));clear H K3 K4;exact Jy
 intro h10 a H
 try have kN:=dF h10
 refine kH H (YM h10 O (YC h10 O (Pf h10 O (Kz K3 (Cd O ?_ ?_))))) <;> clear H K3
 ·intro fT a H
  try have pz:=dT fT
  refine kP H (SR fun _ K5=>au K5 O ?_);clear H K5;exact Jy
 intro fT a H
 try have pz:=dF fT
 refine kP H (Kc K2 (SQ fun _ K6=>SR fun _ K7=>Rm O (Rl rO O (Rm O (Kz K7 (SB ?_))))));clear H K2 K7;intro a H;skip;refine eO (ι:=Nat × GH) (Tc:=[(0,_),(1,_),(14,_),(15,_)]) (Lc:=[]) (fun gh=>[(16,vi gh.1)]) (fun gh=>[]) (fun gh=>gh.2) (fun gh=>gh.1<=l.length∧Dy e (BK l gh.1) (l.drop gh.1)=Dy e none l∧(∀ b o,G b=some o->gh.2 b=some o)) (fun gh=>l.length - gh.1) ((0,G)) (by exact H.sub ⟨O,O,O,O,O,aB⟩) ?_ ?_
 ·exact EK
 clear H;rintro ⟨k,g⟩ a w hI H;dsimp only at hI H;obtain ⟨hk,heq,hgm⟩:=hI;dsimp only [lca,bD] at H;refine kP H (SR fun _ K8=>Rc O (Kz K8 (SQ fun _ K9=>Cd O ?_ ?_))) <;> clear H K8
 ·intro cK a H
  try have kI:=dT cK
  have hk2:k < l.length:=by omega
  have Ig:=hv.mono hgm;obtain ⟨b,o,rfl,hrow⟩:=Sz Ig hk2
  obtain ⟨pk,hpk⟩:∃ pk,0 < k->aI g b (o+(k - 1)*2+0)=some (vi pk)∧BK l k=some pk:=by
   by_cases h0:0 < k
   ·obtain ⟨b',o',he,hr'⟩:=Sz Ig (show k - 1 < l.length by omega)
    injection he with he
    injection he with e1 e2 e3
    subst e1;subst e2;exact ⟨_,fun _=>⟨hr' 0 _ O,by rw [BK,cu,fF V];rfl⟩⟩
   exact ⟨0,fun h=>absurd h h0⟩
  rw [aoF hk2] at heq;have aDF:=heq;refine kP H (Kc K9 (SQ fun _ aT=>SB (SR fun _ bJ=>Rm O (Ri rO qd O O ?_))));clear H K9;intro a H;refine bq qd (cs:=[_,_]) H wn O O (fun j v hj=>H.hp.aI (hrow j v hj)) O ?_;clear H;intro a H;refine dR qd H wn O ?_;clear H;intro b6 a w hb6 H;refine kH H (Ra O ?_);clear H;intro a H;refine bM qd 0 (vs:=[_,_]) H wn O ?_;clear H;intro w H;refine bJ _ _ ?_;clear bJ;refine rX (ι:=GH) (Tc:=[(0,_),(1,_),(6,_),(14,_),(15,_),(16,_)]) (Lc:=[(_,_)]) (fun gh=>[]) (fun gh=>[]) (fun gh=>gh) (fun gh=>(if xD l[k].key l[k].value=0 then Dy e (BK l (k+1)) (l.drop (k+1)) else xD l[k].key l[k].value)=Dy e none l∧(∀ b o,g b=some o->gh b=some o)) (by exact H.sub ⟨O,O,O,O,O,O,aB⟩) ?_ ?_
  ·skip;refine kP H (SB (SR fun _ bO=>Rm O (aU yP aD 0 O O ?_)));clear H;intro a H;refine s_call aeH H wn O (agb _ _ H.ro e l[k].key) O ?_;clear H;rintro v25 G25 a w rfl Fe H;replace hrow:=fun j u hj=>aK Fe (hrow j u hj);refine kH H (Rn O (au bO O (Cd O ?_ ?_))) <;> clear H bO
   ·intro h21 a H
    try have sK:=dT h21
    refine kP H (SR fun _ bU=>au bU O ?_);clear H bU;exact Jy
   intro h21 a H
   try have sK:=dF h21
   rw [ay (by simpa using h21)] at heq;refine bP (fun _ bZ=>?_)
   by_cases c0:0 < (k:Int)
   ·skip
    by_cases c1:l[k].key=pk
    ·skip;refine dI hmx [[],[0],[0,1],[0,1,2],ra 0 4,[0,1,2],[0,1,2],[0,1,2,6],[0,1,2,5,6,7],[0,1,2,5,6,7,8],[0,1,2,5,6,7,8,9],ra 0 11,ra 0 12,ra 0 13] [13] Z [_,_,_,_,vi l[k].key,_,_,vi ((k - 1:Nat):Int),_,_,_,_,_] H (aC (Z0 O (Rm O)) (Z1 0 28 O (Rc O)) (Z1 1 29 O (Rm O)) (Z1 2 30 O (YF yP (aG c0) O)) (aC (Z2 3 31 2 30 O (YO aD 0 (aG c0) O)) (Z1 2 30 O (YM (aG c0) O)) (Z1 2 30 O (YM (aG c0) O)) ?_ (aC (Z3 5 33 7 35 2 30 O (YI rO qd (aG c0) O O)) (Z2 8 36 2 30 O (YF yP (aG c0) O)) (X2 9 37 2 30 O fun hG=>YR aD (aG c0) O (aK hG (aK Fe (hpk V).1))) (Z3 4 32 10 38 2 30 O (YC (aG c0) O)) (bK (Z2 2 30 11 39 O (Pt (aG c0) O)) (bK (bQ O) dG))))) ?_
     ·refine eU 6 34 2 30 O O fun _ a w G1 hG HT H fin=>?_;exact zP
     clear H;intro a w G vE H hv;have H:=H.aQ (hv 12 40 O O) O;clear hv;refine kH H (Ra O ?_);clear H;intro a H;refine aF ⟨O,?_⟩;refine bZ _ _ ?_;clear bZ;refine AV H O (aG c1) ?_;refine bP (fun _ dP=>?_);rw [aH (by rw [(hpk V).2,c1])] at heq;refine kP H (SC (aZ dP O ?_));clear H dP;exact Jy
    skip;refine dI hmx [[],[0],[0,1],[0,1,2],ra 0 4,[0,1,2],[0,1,2],[0,1,2,6],[0,1,2,5,6,7],[0,1,2,5,6,7,8],[0,1,2,5,6,7,8,9],ra 0 11,ra 0 12,ra 0 13] [13] Z [_,_,_,_,vi l[k].key,_,_,vi ((k - 1:Nat):Int),_,_,_,_,_] H (aC (Z0 O (Rm O)) (Z1 0 28 O (Rc O)) (Z1 1 29 O (Rm O)) (Z1 2 30 O (YF yP (aG c0) O)) (aC (Z2 3 31 2 30 O (YO aD 0 (aG c0) O)) (Z1 2 30 O (YM (aG c0) O)) (Z1 2 30 O (YM (aG c0) O)) ?_ (aC (Z3 5 33 7 35 2 30 O (YI rO qd (aG c0) O O)) (Z2 8 36 2 30 O (YF yP (aG c0) O)) (X2 9 37 2 30 O fun hG=>YR aD (aG c0) O (aK hG (aK Fe (hpk V).1))) (Z3 4 32 10 38 2 30 O (YC (aG c0) O)) (bK (Z2 2 30 11 39 O (Pt (aG c0) O)) (bK (bQ O) dG))))) ?_
    ·refine eU 6 34 2 30 O O fun _ a w G1 hG HT H fin=>?_;exact zP
    clear H;intro a w G vE H hv;have H:=H.aQ (hv 12 40 O O) O;clear hv;refine kH H (Ra O ?_);clear H;intro a H;refine aF ⟨O,?_⟩;refine bZ _ _ ?_;clear bZ;refine oQ H O (aS c1) ?_;refine bP (fun _ dY=>?_)
    have q1:¬ (0 < (k:Int)∧l[k].key=pk):=by first|exact fun h=>c1 h.2|exact fun h=>c0 h.1
    rw [ay (fun h=>q1 (by
     by_cases h0:0 < k
     ·exact Qg
     rw [Sw V] at h
     cases h))] at heq
    by_cases c3:l[k].key < pk
    ·skip;refine dI hmx [[],[0],[0,1],[0,1,2],ra 0 4,[0,1,2],[0,1,2],[0,1,2,6],[0,1,2,5,6,7],[0,1,2,5,6,7,8],[0,1,2,5,6,7,8,9],ra 0 11,ra 0 12,ra 0 13] [13] Z [_,_,_,_,vi l[k].key,_,_,vi ((k - 1:Nat):Int),_,_,vi pk,_,_] H (aC (Z0 O (Rm O)) (Z1 0 42 O (Rc O)) (Z1 1 43 O (Rm O)) (Z1 2 44 O (YF yP (aG c0) O)) (aC (Z2 3 45 2 44 O (YO aD 0 (aG c0) O)) (Z1 2 44 O (YM (aG c0) O)) (Z1 2 44 O (YM (aG c0) O)) ?_ (aC (Z3 5 47 7 49 2 44 O (YI rO qd (aG c0) O O)) (Z2 8 50 2 44 O (YF yP (aG c0) O)) ?_ (Z3 4 46 10 52 2 44 O (YC (aG c0) O)) (bK (Z2 2 44 11 53 O (Pt (aG c0) O)) (bK (bQ O) dG))))) ?_
     ·refine eU 6 48 2 44 O O fun _ a w G1 hG HT H fin=>?_;exact zP
     ·exact acw
     clear H;intro a w G wM H hv;have H:=H.aQ (hv 12 54 O O) O;clear hv;refine kH H (Ra O ?_);clear H;intro a H;refine aF ⟨O,?_⟩;refine dY _ _ ?_;clear dY;refine AV H O (aG c3) ?_;refine bP (fun _ dQ=>?_);rw [aH (by rw [(hpk V).2];exact aG c3)] at heq;refine kP H (SC (aZ dQ O ?_));clear H dQ;exact Jy
    skip;refine dI hmx [[],[0],[0,1],[0,1,2],ra 0 4,[0,1,2],[0,1,2],[0,1,2,6],[0,1,2,5,6,7],[0,1,2,5,6,7,8],[0,1,2,5,6,7,8,9],ra 0 11,ra 0 12,ra 0 13] [13] Z [_,_,_,_,vi l[k].key,_,_,vi ((k - 1:Nat):Int),_,_,vi pk,_,_] H (aC (Z0 O (Rm O)) (Z1 0 42 O (Rc O)) (Z1 1 43 O (Rm O)) (Z1 2 44 O (YF yP (aG c0) O)) (aC (Z2 3 45 2 44 O (YO aD 0 (aG c0) O)) (Z1 2 44 O (YM (aG c0) O)) (Z1 2 44 O (YM (aG c0) O)) ?_ (aC (Z3 5 47 7 49 2 44 O (YI rO qd (aG c0) O O)) (Z2 8 50 2 44 O (YF yP (aG c0) O)) ?_ (Z3 4 46 10 52 2 44 O (YC (aG c0) O)) (bK (Z2 2 44 11 53 O (Pt (aG c0) O)) (bK (bQ O) dG))))) ?_
    ·refine eU 6 48 2 44 O O fun _ a w G1 hG HT H fin=>?_;exact zP
    ·exact acw
    clear H;intro a w G wM H hv;have H:=H.aQ (hv 12 54 O O) O;clear hv;refine kH H (Ra O ?_);clear H;intro a H;refine aF ⟨O,?_⟩;refine dY _ _ ?_;clear dY;refine oQ H O (aS c3) ?_;refine gT ?_;refine ⟨_,by exact H.sub ⟨O,O,O,O,O,O,aB⟩,?_⟩
    have q2:¬ (0 < (k:Int)∧l[k].key < pk):=by first|exact fun h=>c3 h.2|exact fun h=>c0 h.1
    rw [ay (fun h=>q2 (by
     by_cases h0:0 < k
     ·exact P8
     rw [Sw V] at h
     cases h))] at heq
    exact abp
   skip;refine dI hmx [[],[0],[0,1],[0,1,2],ra 0 4,[0,1,2],[0,1,2],[0,1,2,6],[0,1,2,5,6,7],[0,1,2,5,6,7,8],[0,1,2,5,6,7,8,9],ra 0 11,ra 0 12,ra 0 13] [13] Z [_,_,_,undef,undef,undef,undef,undef,undef,undef,undef,undef,_] H (aC (Z0 O (Rm O)) (Z1 0 28 O (Rc O)) (Z1 1 29 O (Rm O)) (aO 2 (aS c0) O O) (aC (aO 2 (aS c0) O O) (aO 2 (aS c0) O O) (aO 2 (aS c0) O O) (aO 2 (aS c0) O O) (aC (aO 2 (aS c0) O O) (aO 2 (aS c0) O O) (aO 2 (aS c0) O O) (aO 2 (aS c0) O O) (bK (Z2 2 30 11 39 O (Pf (aS c0) O)) (bK (bQ O) dG))))) ?_
   clear H;intro a w G vE H hv;have H:=H.aQ (hv 12 40 O O) O;clear hv;refine kH H (Ra O ?_);clear H;intro a H;refine aF ⟨O,?_⟩;refine bZ _ _ ?_;clear bZ;refine oQ H O O ?_;refine bP (fun _ eX=>?_)
   have q1:¬ (0 < (k:Int)∧l[k].key=pk):=by first|exact fun h=>c1 h.2|exact fun h=>c0 h.1
   rw [ay (fun h=>q1 (by
    by_cases h0:0 < k
    ·exact Qg
    rw [Sw V] at h
    cases h))] at heq
   refine dI hmx [[],[0],[0,1],[0,1,2],ra 0 4,[0,1,2],[0,1,2],[0,1,2,6],[0,1,2,5,6,7],[0,1,2,5,6,7,8],[0,1,2,5,6,7,8,9],ra 0 11,ra 0 12,ra 0 13] [13] Z [_,_,_,undef,undef,undef,undef,undef,undef,undef,undef,undef,_] H (aC (Z0 O (Rm O)) (Z1 0 42 O (Rc O)) (Z1 1 43 O (Rm O)) (aO 2 (aS c0) O O) (aC (aO 2 (aS c0) O O) (aO 2 (aS c0) O O) (aO 2 (aS c0) O O) (aO 2 (aS c0) O O) (aC (aO 2 (aS c0) O O) (aO 2 (aS c0) O O) (aO 2 (aS c0) O O) (aO 2 (aS c0) O O) (bK (Z2 2 44 11 53 O (Pf (aS c0) O)) (bK (bQ O) dG))))) ?_
   clear H;intro a w G wM H hv;have H:=H.aQ (hv 12 54 O O) O;clear hv;refine kH H (Ra O ?_);clear H;intro a H;refine aF ⟨O,?_⟩;refine eX _ _ ?_;clear eX;refine oQ H O O ?_;refine gT ?_;refine ⟨_,by exact H.sub ⟨O,O,O,O,O,O,aB⟩,?_⟩
   have q2:¬ (0 < (k:Int)∧l[k].key < pk):=by first|exact fun h=>c3 h.2|exact fun h=>c0 h.1
   rw [ay (fun h=>q2 (by
    by_cases h0:0 < k
    ·exact P8
    rw [Sw V] at h
    cases h))] at heq
   exact abp
  clear H;intro g2 a w hI H;obtain ⟨heq,mM⟩:=hI;replace hrow:=fun j u hj=>aK mM (hrow j u hj);dsimp only [lca,bD] at H;refine kP H (SR fun _ gM=>aU yP aD 0 O O (aU afF aD 0 O O ?_));clear H;intro a H;refine s_call aeI H wn O (adP _ _ H.ro l[k].key l[k].value) O ?_;clear H;rintro v59 G59 a w rfl avI H;refine kH H (au gM O (SR fun _ fI=>Rm O (Rc O (Kz fI (Cd O ?_ ?_))))) <;> clear H gM fI
  ·intro Hl a H
   try have p61:=dT Hl
   refine kP H (SR fun _ gQ=>Rm O (au gQ O ?_));clear H gQ;exact Jy
  intro Hl a H
  try have p61:=dF Hl
  refine kP H (Kc aT (SC (Rd O (Rm O ?_))));clear H aT;intro a H;refine aF ?_;refine dS ((k+1,G59)) (by exact (H.dV (Pl:=[_]) (dL:=[]) [] Q1 O).sub ⟨O,O,O,O,O,aB⟩) ?_
  (try dsimp only);exact ⟨V,by rw [aH (by simpa using p61)] at heq;exact heq,fun b o h=>avI b o (mM b o (hgm b o h))⟩
 intro cK a H
 try have kI:=dF cK
 refine dX ?_;refine K6 _ _ ?_;clear K6;refine kP H (SR fun _ jw=>au jw O ?_);clear H jw;intro a H;refine lr H results102 O ?_
 exact abo
theorem jm:Ty prog 41 1 8 [.int .i64 0] false:=⟨Z,Z⟩
theorem qO:prog.underlying 221=some (.slice 41):=by kernel_rfl
theorem yM:aW 133:=aY func133 O
theorem zi (G:GH) (w0:World) (hG:Hold G w0) (n l h:Int):Calls prog 133 #[vi n,vi l,vi h] w0 (bG w0 G fun u G'=>u=.bool (decide (l<=n∧n<=h))∧G=G'):=by
 refine eN [(0,_),(1,_),(2,_)] func133 O ntmps133 O O hG ?_;intro a H;refine kP H (SR fun _ K1=>au K1 O (SR fun _ K2=>Rm O (Rm O (Rc O (Rm O (Sp 10 O ?_ ?_)))))) <;> clear H K1
 ·intro h10 a H
  try have kN:=dT h10
  exact kH H (YM h10 O (YM h10 O (YC h10 O (Pt h10 O (au K2 O (LR results133 O fun H=>H.rt ⟨iq (by first|(simp_all;done)|(simp_all;omega)),rfl⟩))))))
 intro h10 a H
 try have kN:=dF h10
 exact kH H (bg h10 O (Pf h10 O (au K2 O (LR results133 O fun H=>H.rt ⟨iq (by first|(simp_all;done)|(simp_all;omega)),rfl⟩))))
def dN (b:Bool) (e:Int):Int:=if b=true then e else 0
theorem mD (G:GH) (w0:World) (hG:Hold G w0) (b:Bool) (e:Int):Calls prog 56 #[.bool b,vi e] w0 (bG w0 G fun u G'=>u=vi (dN b e)∧G=G'):=by
 refine eN [(0,_),(1,_)] func56 O ntmps56 O O hG ?_;intro a H;refine kP H (SR fun _ K1=>au K1 O (SQ fun _ K2=>SR fun _ K3=>Rm O (Kz K3 (Cd O ?_ ?_)))) <;> clear H K1 K3
 ·intro h5 a H
  try have p5:=dT h5
  exact kP H (SR fun _ K4=>Rm O (au K4 O (LR results56 O fun H=>H.rt ⟨dh vi (by simp_all [dN]),O⟩)))
 intro h5 a H
 try have p5:=dF h5
 exact kP H (Kc K2 (SR fun _ K5=>au K5 O (LR results56 O fun H=>H.rt ⟨dh vi (by simp_all [dN]),O⟩)))
def eu:List Int->Int
 | []=>0
 | e :: r=>if e≠0 then e else eu r
theorem QH {l:List Int} {k:Nat} (h:k < l.length):eu (l.drop k)=if l[k]≠0 then l[k] else eu (l.drop (k+1)):=by
 rw [mW h,eu]
theorem sw (G:GH) (w0:World) (hG:Hold G w0) (l:List Int) (v:ah) (hv:av G (.sl 1 (l.map fun k=>[li k])) v) :
  Calls prog 51 #[v] w0 (bG w0 G fun u G'=>u=vi (eu l)∧G=G'):=by
 obtain ⟨A,c,rfl,hc1,hc2,hg⟩:=hv.slice;have hml:maxLen=9223372036854775807:=rfl;rw [bR] at *;refine eN [(0,_)] func51 O ntmps51 O O hG ?_;intro a H;refine kP H (SR fun _ K1=>au K1 O (SQ fun _ K2=>SR fun _ K3=>Rm O (Rl qO O (Rm O (Kz K3 (SB ?_))))));clear H K1 K3;intro a H;skip;refine eO (ι:=Nat) (Tc:=[(5,_),(6,_)]) (Lc:=[]) (fun gh=>[(7,vi gh)]) (fun gh=>[]) (fun gh=>G) (fun gh=>gh<=l.length∧eu (l.drop gh)=eu l) (fun gh=>l.length - gh) (0) (by exact H.sub ⟨O,O,O,aB⟩) ?_ ?_
 ·exact Js
 clear H;intro k a w hI H;obtain ⟨hk,he⟩:=hI;dsimp only [lca,bD] at H;refine kP H (SR fun _ K4=>Rc O (Kz K4 (SQ fun _ K5=>Cd O ?_ ?_))) <;> clear H K4
 ·intro h8 a H
  try have p8:=dT h8
  have hk2:k < l.length:=by omega
  obtain ⟨b,o,cs,rfl,hcl,hrow,hr⟩:=hg k [li l[k]] (by simp [hk2]);obtain ⟨v1,_,rfl,⟨rfl,-⟩,rfl⟩:∃ v vs,cs=v :: vs∧av G (li l[k]) v∧aX G [] vs:=hr
  have hcell:aI G b (o+k*1)=some (vi l[k]):=by simpa using hrow 0 _ O
  refine kP H (Kc K5 (SQ fun _ K6=>SB (SR fun _ K7=>Ri qO jm O O (Rg jm O hcell (au K7 O (SR fun _ K8=>Rm O (Rc O (Kz K8 (Cd O ?_ ?_))))))))) <;> clear H K5 K7 K8
  ·intro h12 a H
   try have pq:=dT h12
   exact kP H (SR fun _ K9=>Rm O (au K9 O (LR results51 O fun H=>H.rt ⟨dh vi (by rw [QH hk2,aH pq] at he;exact he),O⟩)))
  intro h12 a H
  try have pq:=dF h12
  refine kP H (Kc K6 (SC (Rd O (Rm O ?_))));clear H K6;intro a H;refine aF ?_;refine dS ((k+1)) (by exact H.sub ⟨O,O,O,aB⟩) ?_
  exact ⟨V,by rw [QH hk2,ay pq] at he;exact he⟩
 intro h8 a H
 try have p8:=dF h8
 refine dX ?_;refine K2 _ _ ?_;clear K2;exact kP H (SR fun _ aT=>au aT O (LR results51 O fun H=>H.rt ⟨dh vi (by rw [ow V] at he;exact he),O⟩))
def uU (fv:ah) (Gi:GH) (n:Nat) (E:Nat->Int):Prop:=∀ i,i < n->∀ (G1:GH) (w1:World),(∀ b o,Gi b=some o->G1 b=some o)->Hold G1 w1->tY prog fv [vi i] w1 (bG w1 G1 fun u G'=>u=vi (E i))
theorem uU.mono {fv:ah} {G G':GH} {n:Nat} {E:Nat->Int} (h:uU fv G n E) (hm:∀ b o,G b=some o->G' b=some o):uU fv G' n E:=fun i hi G1 w1 hG1=>h i hi G1 w1 fun b o hb=>hG1 b o (hm b o hb)
def kF (E:Nat->Int) (n:Nat):Int:=eu ((List.range n).map E)
theorem Mk {E:Nat->Int} {n k:Nat} (h:k < n):eu (((List.range n).map E).drop k)=if E k≠0 then E k else eu (((List.range n).map E).drop (k+1)):=by
 rw [QH (by simpa using h)];simp
theorem anz {p:Prop} (h:p:=by
 exact ⟨V,by rw [Mk hk2,ay uL] at he;exact he,fun b o h=>XI b o (hgm b o h)⟩):p:=h
theorem adg {p:Prop} (h:p:=by
 refine kP H (Kc K6 (SC (Rd O (Rm O ?_))));clear H K6;intro a H;refine aF ?_;refine dS ((k+1,LU)) (by exact H.sub ⟨O,O,O,aB⟩) ?_
 (try dsimp only);exact anz):p:=h
theorem Ml (G:GH) (w0:World) (hG:Hold G w0) (n:Nat) (E:Nat->Int) (fv:ah) (hn:n<=4611686018427387904) (hf:uU fv G n E) :
  Calls prog 128 #[vi n,fv] w0 (bG w0 G fun u G'=>u=vi (kF E n)):=by
 refine eN [(0,_),(1,_)] func128 O ntmps128 O O hG ?_;intro a H;refine kP H (SR fun _ K1=>au K1 O (SQ fun _ K2=>SR fun _ K3=>Rm O (Rm O (Kz K3 (SB ?_)))));clear H K1 K3;intro a H;skip;refine eO (ι:=Nat × GH) (Tc:=[(1,_),(7,_)]) (Lc:=[]) (fun gh=>[(8,vi gh.1)]) (fun gh=>[]) (fun gh=>gh.2) (fun gh=>gh.1<=n∧eu (((List.range n).map E).drop gh.1)=kF E n∧(∀ b o,G b=some o->gh.2 b=some o)) (fun gh=>n - gh.1) ((0,G)) (by exact H.sub ⟨O,O,O,aB⟩) ?_ ?_
 ·exact EK
 clear H;rintro ⟨k,g⟩ a w hI H;dsimp only at hI H;obtain ⟨hk,he,hgm⟩:=hI;dsimp only [lca,bD] at H;refine kP H (SR fun _ K4=>Rc O (Kz K4 (SQ fun _ K5=>Cd O ?_ ?_))) <;> clear H K4
 ·intro h9 a H
  try have p9:=dT h9
  have hk2:k < n:=by omega
  refine kP H (Kc K5 (SQ fun _ K6=>SB (SR fun _ K7=>Rm O (au K7 O (SR fun _ K8=>Rm O (Rm O ?_))))));clear H K5 K7;intro a H;refine oL H wn O O (hf k hk2 _ _ hgm H.ro) O ?_;clear H;rintro v13 LU a w rfl XI H;refine kH H (au K8 O (SR fun _ K9=>Rm O (Rc O (Kz K9 (Cd O ?_ ?_))))) <;> clear H K8 K9
  ·intro oC a H
   try have uL:=dT oC
   exact kP H (SR fun _ aT=>Rm O (au aT O (LR results128 O fun H=>H.rt (dh vi (by rw [Mk hk2,aH uL] at he;exact he)))))
  intro oC a H
  try have uL:=dF oC
  exact adg
 intro h9 a H
 try have p9:=dF h9
 refine dX ?_;refine K2 _ _ ?_;clear K2;exact kP H (SR fun _ bJ=>au bJ O (LR results128 O fun H=>H.rt (dh vi (by rw [ow (by simp;omega)] at he;exact he))))
def wQ (id:Nat->Int) (i:Nat):Int:=if ¬ (1<=id i∧id i<=1073741824) then 18 else if 0 < i∧id i=id (i - 1) then 7 else if 0 < i∧id i < id (i - 1) then 6 else 0
theorem PU {p:Prop} (h:p:=by
 exact H.rt (dh vi (by unfold wQ;(repeat' split) <;> first|rfl|(exfalso;simp_all;done)|(exfalso;simp_all;omega)))):p:=h
theorem Vu {p:Prop} (h:p:=by
 intro a H;refine lr H results130 O ?_
 exact PU):p:=h
theorem Vw {p:Prop} (h:p:=by
 refine lr H results130 O ?_
 exact PU):p:=h
theorem aiq (G:GH) (w0:World) (hG:Hold G w0) (i:Nat) (id:Nat->Int) (fv:ah) (hn:i<=4611686018427387904) (hf:uU fv G (i+1) id) :
  Calls prog 130 #[vi i,fv] w0 (bG w0 G fun u G'=>u=vi (wQ id i)):=by
 refine eN [(0,_),(1,_)] func130 O ntmps130 O O hG ?_;intro a H;refine kP H (SR fun _ K1=>au K1 O (SQ fun _ K2=>SB (SR fun _ K3=>Rm O (Rm O ?_))));clear H K1;intro a H;refine oL H wn O O (hf i (Nat.lt_succ_self _) _ _ (fun _ _ h=>h) H.ro) O ?_;clear H;rintro v8 G8 a w rfl Cv H;refine s_call yM H wn O (zi _ _ H.ro (id i) 1 1073741824) O ?_;clear H;rintro v9 _ a w ⟨rfl,rfl⟩ - H;refine kH H (Rn O (au K3 O (Cd O ?_ ?_))) <;> clear H K3
 ·intro h5 a H
  try have p5:=dT h5
  refine kP H (SR fun _ K4=>au K4 O ?_);clear H K4;exact Vu
 intro h5 a H
 try have p5:=dF h5
 refine kP H (SR fun _ K5=>Rm O (Rc O (Rm O (Sp 14 O ?_ ?_)))) <;> clear H
 ·intro eD a H
  try have lJ:=dT eD
  refine kH H (YM eD O (YM eD O ?_));clear H;intro a H;refine oL H (wg H O O eD) O O (hf i (Nat.lt_succ_self _) _ _ Cv H.ro) O ?_;clear H;rintro v17 Ay a w rfl tK H;refine kH H (YM eD O (YM eD O ?_));clear H;intro a H;refine BN _ H (wg H O O eD) O O O V V O ?_;clear H;intro a H;rw [show ((i:Int) - 1)=((i - 1:Nat):Int) by omega] at H;refine oL H (wg H O O eD) O O (hf (i - 1) V _ _ (fun b o h=>tK b o (Cv b o h)) H.ro) O ?_;clear H;rintro v21 O5 a w rfl zY H;refine kH H (YC eD O (Pt eD O (au K5 O (Cd O ?_ ?_)))) <;> clear H K5
  ·intro h11 a H
   try have qp:=dT h11
   refine kP H (SR fun _ K6=>au K6 O ?_);clear H K6;intro a H;exact Vw
  intro h11 a H
  try have qp:=dF h11
  refine kP H (SR fun _ K7=>Rm O (Rc O (Rm O (Sp 27 O ?_ ?_)))) <;> clear H
  ·intro h27 a H
   try have p27:=dT h27
   refine kH H (YM h27 O (YM h27 O ?_));clear H;intro a H;refine oL H (wg H O O h27) O O (hf i (Nat.lt_succ_self _) _ _ (fun b o h=>by first|exact zY b o (tK b o (Cv b o h))|(exfalso;omega)) H.ro) rfl ?_;clear H;rintro v30 EC a w rfl zZ H;refine kH H (YM h27 O (YM h27 O ?_));clear H;intro a H;refine BN _ H (wg H O O h27) O O O V V O ?_;clear H;intro a H;rw [show ((i:Int) - 1)=((i - 1:Nat):Int) by omega] at H;refine oL H (wg H O O h27) O O (hf (i - 1) V _ _ (fun b o h=>by first|exact zZ b o (zY b o (tK b o (Cv b o h)))|(exfalso;omega)) H.ro) rfl ?_;clear H;rintro v34 G34 a w rfl aha H;refine kH H (YC h27 O (Pt h27 O (au K7 O (Cd O ?_ ?_)))) <;> clear H K7
   ·intro dU a H
    try have lK:=dT dU
    refine kP H (SR fun _ K8=>au K8 O ?_);clear H K8;intro a H;refine lr H results130 O ?_
    exact PU
   intro dU a H
   try have lK:=dF dU
   refine kP H (Kc K2 (SR fun _ K9=>au K9 O ?_));clear H K2 K9;intro a H;exact Vw
  intro h27 a H
  try have p27:=dF h27
  refine kH H (bg h27 O (bg h27 O (aR h27 O (Pf h27 O (au K7 O (Cf O O (Kc K2 (SR fun _ aT=>au aT O ?_))))))));clear H K7 K2 aT;exact Vu
 intro eD a H
 try have lJ:=dF eD
 refine kH H (bg eD O (bg eD O (aR eD O (Pf eD O (au K5 O (Cf O O (SR fun _ bJ=>Rm O (Rc O (Rm O (Sp 27 O ?_ ?_)))))))))) <;> clear H K5
 ·intro h27 a H
  try have p27:=dT h27
  refine kH H (YM h27 O (YM h27 O ?_));clear H;intro a H;refine oL H (wg H O O h27) O O (hf i (Nat.lt_succ_self _) _ _ (fun b o h=>by first|exact zY b o (tK b o (Cv b o h))|(exfalso;omega)) H.ro) rfl ?_;clear H;rintro v30 EC a w rfl zZ H;refine kH H (YM h27 O (YM h27 O ?_));clear H;intro a H;refine BN _ H (wg H O O h27) O O O V V O ?_;clear H;intro a H;rw [show ((i:Int) - 1)=((i - 1:Nat):Int) by omega] at H;refine oL H (wg H O O h27) O O (hf (i - 1) V _ _ (fun b o h=>by first|exact zZ b o (zY b o (tK b o (Cv b o h)))|(exfalso;omega)) H.ro) rfl ?_;clear H;rintro v34 G34 a w rfl aha H;refine kH H (YC h27 O (Pt h27 O (au bJ O (Cd O ?_ ?_)))) <;> clear H bJ
  ·intro dU a H
   try have lK:=dT dU
   refine kP H (SR fun _ bO=>au bO O ?_);clear H bO;intro a H;exact Vw
  intro dU a H
  try have lK:=dF dU
  refine kP H (Kc K2 (SR fun _ bU=>au bU O ?_));clear H K2 bU;exact Vu
 intro h27 a H
 try have p27:=dF h27
 refine kH H (bg h27 O (bg h27 O (aR h27 O (Pf h27 O (au bJ O (Cf O O (Kc K2 (SR fun _ bZ=>au bZ O ?_))))))));clear H bJ K2 bZ;intro a H;refine lr H results130 O ?_
 exact PU
end Go.Proofs.YtggpjlchglgodaaGreat
