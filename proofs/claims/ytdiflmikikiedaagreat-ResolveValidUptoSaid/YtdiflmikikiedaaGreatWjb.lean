/-
  What the claim stands on, part 2: Cp Run Rg Pos Pq Doc Dq Idx Plc Plr Hv Prk Dlf Prp Prq Prc Pst Ehd Dc24 Bld Fst Nam Pn De Dj.
-/
import Derived.Test.YtdiflmikikiedaaGreatWja
import Derived.Test.YtdiflmikikiedaaGreatRows
namespace Go.Proofs.YtdiflmikikiedaaGreat
set_option linter.all false
open Go.Proofs.Tryz
open Go.RowKit
theorem mh:prog.underlying 3=some (.int .i64):=by kernel_rfl
theorem Oh:prog.underlying 5=some (.int .u8):=by kernel_rfl
theorem iY:prog.underlying 9=some .string:=by kernel_rfl
theorem aqg:aQ 268:=aR func268 rfl
theorem apV:aQ 249:=aR func249 rfl
theorem apJ:aQ 225:=aR func225 rfl
theorem MJ:aQ 193:=aR func193 rfl
def yh (b:Int):Int × Int × Int :=
  (if b=224 then 160 else if b=240 then 144 else 128,if b=237 then 159 else if b=244 then 143 else 191,
   if b < 128 then 1 else if b < 194∨244 < b then 0 else if b < 224 then 2 else if b < 240 then 3 else 4)
theorem Ze (b:Int):0<=(yh b).2.2∧(yh b).2.2<=4:=by
 simp only [yh];split
 ·omega
 split
 ·omega
 split
 ·omega
 split <;> omega
theorem T9 {p:Prop} (h:p:=by
 first|(exfalso;omega)|exact H.rt ⟨by simp only [yh];repeat (first|rw [mQ]|rw [dw]),rfl⟩):p:=h
theorem Dq {p:Prop} (h:p:=by
 intro a H;refine eO ?_;refine (jU H results268 (.cons (fu H rfl) (.cons (fu H rfl) (.cons (fu H rfl) .nil))) ?_).1
 exact T9):p:=h
theorem amf {p:Prop} (h:p:=by
 refine eO ?_;refine (jU H results268 (.cons (fu H rfl) (.cons (fu H rfl) (.cons (fu H rfl) .nil))) ?_).1
 exact T9):p:=h
theorem rR {p:Prop} (h:p:=by
 intro a H;exact amf):p:=h
theorem aAC (G:GH) (w0:World) (hG:Hold G w0) (b:Int) :
  Calls prog 268 #[.int .u8 b] w0 (bK w0 G fun v G'=>v=.tuple #[.int .u8 (yh b).1,.int .u8 (yh b).2.1,.int .i64 (yh b).2.2]∧G=G'):=by
 refine eN [(0,_)] func268 rfl ntmps268 rfl rfl hG ?_;intro a H;refine kP H (SR fun _ K1=>Ra rfl (Ra rfl (aj K1 rfl (SR fun _ K2=>Ra rfl (aj K2 rfl (SQ fun _ K3=>SB (SR fun _ K4=>Rm rfl (Rc rfl (aj K4 rfl (Cd rfl ?_ ?_)))))))))) <;> clear H K1 K2 K4
 ·intro h5 a H
  try have p5:=dT h5
  refine kP H (SC (aX K3 rfl (SQ fun _ K5=>SR fun _ K6=>Rm rfl (Kz K6 (SB (SR fun _ K7=>Rc rfl (aj K7 rfl (Cd rfl ?_ ?_)))))))) <;> clear H K3 K6 K7
  ·intro h22 a H
   try have oK:=dT h22
   refine kP H (SC (aX K5 rfl (SR fun _ K8=>Rm rfl (Rm rfl (Rm rfl (Ra rfl (Ra rfl (aj K8 rfl ?_))))))));clear H K5 K8;exact rR
  intro h22 a H
  try have oK:=dF h22
  refine kP H (SR fun _ K9=>Rc rfl (aj K9 rfl (Cd rfl ?_ ?_))) <;> clear H K9
  ·intro fC a H
   try have mR:=dT fC
   refine kP H (SC (aX K5 rfl (SR fun _ aW=>Rm rfl (Rm rfl (Rm rfl (Ra rfl (Ra rfl (aj aW rfl ?_))))))));clear H K5 aW;exact rR
  intro fC a H
  try have mR:=dF fC
  refine kP H (SR fun _ bM=>Rc rfl (aj bM rfl (Cd rfl ?_ ?_))) <;> clear H bM
  ·intro jC a H
   try have p26:=dT jC
   refine kP H (SC (aX K5 rfl (SR fun _ bU=>Rm rfl (Rm rfl (Rm rfl (Ra rfl (Ra rfl (aj bU rfl ?_))))))));clear H K5 bU;exact rR
  intro jC a H
  try have p26:=dF jC
  refine kP H (SR fun _ bY=>Rc rfl (aj bY rfl (Cd rfl ?_ ?_))) <;> clear H bY
  ·intro fZ a H
   try have p28:=dT fZ
   refine kP H (SC (aX K5 rfl (SR fun _ cZ=>Rm rfl (Rm rfl (Rm rfl (Ra rfl (Ra rfl (aj cZ rfl ?_))))))));clear H K5 cZ;exact rR
  intro fZ a H
  try have p28:=dF fZ
  refine kP H (Kc K5 (SR fun _ dQ=>Rm rfl (Rm rfl (Rm rfl (Ra rfl (Ra rfl (aj dQ rfl ?_)))))));clear H K5 dQ;exact Dq
 intro h5 a H
 try have p5:=dF h5
 refine kP H (SR fun _ dR=>Rm rfl (Rc rfl (Rm rfl (Sp 11 rfl ?_ ?_)))) <;> clear H
 ·intro h11 a H
  try have sj:=dT h11
  refine kH H (aP h11 rfl (Pt h11 rfl (aj dR rfl (Ct rfl rfl (SC (aX K3 rfl (SQ fun _ dK=>SR fun _ dX=>Rm rfl (Kz dX (SB (SR fun _ fM=>Rc rfl (aj fM rfl (Cd rfl ?_ ?_)))))))))))) <;> clear H dR K3 dX fM
  ·intro h22 a H
   try have oK:=dT h22
   refine kP H (SC (aX dK rfl (SR fun _ eP=>Rm rfl (Rm rfl (Rm rfl (Ra rfl (Ra rfl (aj eP rfl ?_))))))));clear H dK eP;exact rR
  intro h22 a H
  try have oK:=dF h22
  refine kP H (SR fun _ gB=>Rc rfl (aj gB rfl (Cd rfl ?_ ?_))) <;> clear H gB
  ·intro fC a H
   try have mR:=dT fC
   refine kP H (SC (aX dK rfl (SR fun _ iH=>Rm rfl (Rm rfl (Rm rfl (Ra rfl (Ra rfl (aj iH rfl ?_))))))));clear H dK iH;exact rR
  intro fC a H
  try have mR:=dF fC
  refine kP H (SR fun _ jP=>Rc rfl (aj jP rfl (Cd rfl ?_ ?_))) <;> clear H jP
  ·intro jC a H
   try have p26:=dT jC
   refine kP H (SC (aX dK rfl (SR fun _ jH=>Rm rfl (Rm rfl (Rm rfl (Ra rfl (Ra rfl (aj jH rfl ?_))))))));clear H dK jH;exact rR
  intro jC a H
  try have p26:=dF jC
  refine kP H (SR fun _ jr=>Rc rfl (aj jr rfl (Cd rfl ?_ ?_))) <;> clear H jr
  ·intro fZ a H
   try have p28:=dT fZ
   refine kP H (SC (aX dK rfl (SR fun _ kN=>Rm rfl (Rm rfl (Rm rfl (Ra rfl (Ra rfl (aj kN rfl ?_))))))));clear H dK kN;exact rR
  intro fZ a H
  try have p28:=dF fZ
  refine kP H (Kc dK (SR fun _ kQ=>Rm rfl (Rm rfl (Rm rfl (Ra rfl (Ra rfl (aj kQ rfl ?_)))))));clear H dK kQ;exact Dq
 intro h11 a H
 try have sj:=dF h11
 refine kH H (YM h11 rfl (YC h11 rfl (Pf h11 rfl (aj dR rfl (Cd rfl ?_ ?_))))) <;> clear H dR
 ·intro h8 a H
  try have p8:=dT h8
  refine kP H (SC (aX K3 rfl (SQ fun _ jh=>SR fun _ mD=>Rm rfl (Kz mD (SB (SR fun _ nE=>Rc rfl (aj nE rfl (Cd rfl ?_ ?_)))))))) <;> clear H K3 mD nE
  ·intro h22 a H
   try have oK:=dT h22
   refine kP H (SC (aX jh rfl (SR fun _ mE=>Rm rfl (Rm rfl (Rm rfl (Ra rfl (Ra rfl (aj mE rfl ?_))))))));clear H jh mE;exact rR
  intro h22 a H
  try have oK:=dF h22
  refine kP H (SR fun _ oC=>Rc rfl (aj oC rfl (Cd rfl ?_ ?_))) <;> clear H oC
  ·intro fC a H
   try have mR:=dT fC
   refine kP H (SC (aX jh rfl (SR fun _ nQ=>Rm rfl (Rm rfl (Rm rfl (Ra rfl (Ra rfl (aj nQ rfl ?_))))))));clear H jh nQ;exact rR
  intro fC a H
  try have mR:=dF fC
  refine kP H (SR fun _ oO=>Rc rfl (aj oO rfl (Cd rfl ?_ ?_))) <;> clear H oO
  ·intro jC a H
   try have p26:=dT jC
   refine kP H (SC (aX jh rfl (SR fun _ sI=>Rm rfl (Rm rfl (Rm rfl (Ra rfl (Ra rfl (aj sI rfl ?_))))))));clear H jh sI;exact rR
  intro jC a H
  try have p26:=dF jC
  refine kP H (SR fun _ rQ=>Rc rfl (aj rQ rfl (Cd rfl ?_ ?_))) <;> clear H rQ
  ·intro fZ a H
   try have p28:=dT fZ
   refine kP H (SC (aX jh rfl (SR fun _ uE=>Rm rfl (Rm rfl (Rm rfl (Ra rfl (Ra rfl (aj uE rfl ?_))))))));clear H jh uE;exact rR
  intro fZ a H
  try have p28:=dF fZ
  refine kP H (Kc jh (SR fun _ yx=>Rm rfl (Rm rfl (Rm rfl (Ra rfl (Ra rfl (aj yx rfl ?_)))))));clear H jh yx;exact Dq
 intro h8 a H
 try have p8:=dF h8
 refine kP H (SR fun _ BO=>Rm rfl (Rc rfl (aj BO rfl (Cd rfl ?_ ?_)))) <;> clear H BO
 ·intro jK a H
  try have tu:=dT jK
  refine kP H (SC (aX K3 rfl (SQ fun _ qJ=>SR fun _ Di=>Rm rfl (Kz Di (SB (SR fun _ BP=>Rc rfl (aj BP rfl (Cd rfl ?_ ?_)))))))) <;> clear H K3 Di BP
  ·intro h22 a H
   try have oK:=dT h22
   refine kP H (SC (aX qJ rfl (SR fun _ F4=>Rm rfl (Rm rfl (Rm rfl (Ra rfl (Ra rfl (aj F4 rfl ?_))))))));clear H qJ F4;exact rR
  intro h22 a H
  try have oK:=dF h22
  refine kP H (SR fun _ EB=>Rc rfl (aj EB rfl (Cd rfl ?_ ?_))) <;> clear H EB
  ·intro fC a H
   try have mR:=dT fC
   refine kP H (SC (aX qJ rfl (SR fun _ F5=>Rm rfl (Rm rfl (Rm rfl (Ra rfl (Ra rfl (aj F5 rfl ?_))))))));clear H qJ F5;exact rR
  intro fC a H
  try have mR:=dF fC
  refine kP H (SR fun _ EC=>Rc rfl (aj EC rfl (Cd rfl ?_ ?_))) <;> clear H EC
  ·intro jC a H
   try have p26:=dT jC
   refine kP H (SC (aX qJ rfl (SR fun _ LJ=>Rm rfl (Rm rfl (Rm rfl (Ra rfl (Ra rfl (aj LJ rfl ?_))))))));clear H qJ LJ;exact rR
  intro jC a H
  try have p26:=dF jC
  refine kP H (SR fun _ OI=>Rc rfl (aj OI rfl (Cd rfl ?_ ?_))) <;> clear H OI
  ·intro fZ a H
   try have p28:=dT fZ
   refine kP H (SC (aX qJ rfl (SR fun _ OJ=>Rm rfl (Rm rfl (Rm rfl (Ra rfl (Ra rfl (aj OJ rfl ?_))))))));clear H qJ OJ;exact rR
  intro fZ a H
  try have p28:=dF fZ
  refine kP H (Kc qJ (SR fun _ Z4=>Rm rfl (Rm rfl (Rm rfl (Ra rfl (Ra rfl (aj Z4 rfl ?_)))))));clear H qJ Z4;exact Dq
 intro jK a H
 try have tu:=dF jK
 refine kP H (SR fun _ Z5=>Rm rfl (Rc rfl (aj Z5 rfl (Cd rfl ?_ ?_)))) <;> clear H Z5
 ·intro h18 a H
  try have Ef:=dT h18
  refine kP H (SC (aX K3 rfl (SQ fun _ BQ=>SR fun _ Z6=>Rm rfl (Kz Z6 (SB (SR fun _ Z7=>Rc rfl (aj Z7 rfl (Cd rfl ?_ ?_)))))))) <;> clear H K3 Z6 Z7
  ·intro h22 a H
   try have oK:=dT h22
   refine kP H (SC (aX BQ rfl (SR fun _ Z8=>Rm rfl (Rm rfl (Rm rfl (Ra rfl (Ra rfl (aj Z8 rfl ?_))))))));clear H BQ Z8;exact rR
  intro h22 a H
  try have oK:=dF h22
  refine kP H (SR fun _ Z9=>Rc rfl (aj Z9 rfl (Cd rfl ?_ ?_))) <;> clear H Z9
  ·intro fC a H
   try have mR:=dT fC
   refine kP H (SC (aX BQ rfl (SR fun _ K57=>Rm rfl (Rm rfl (Rm rfl (Ra rfl (Ra rfl (aj K57 rfl ?_))))))));clear H BQ K57;exact rR
  intro fC a H
  try have mR:=dF fC
  refine kP H (SR fun _ K58=>Rc rfl (aj K58 rfl (Cd rfl ?_ ?_))) <;> clear H K58
  ·intro jC a H
   try have p26:=dT jC
   refine kP H (SC (aX BQ rfl (SR fun _ K59=>Rm rfl (Rm rfl (Rm rfl (Ra rfl (Ra rfl (aj K59 rfl ?_))))))));clear H BQ K59;exact rR
  intro jC a H
  try have p26:=dF jC
  refine kP H (SR fun _ K60=>Rc rfl (aj K60 rfl (Cd rfl ?_ ?_))) <;> clear H K60
  ·intro fZ a H
   try have p28:=dT fZ
   refine kP H (SC (aX BQ rfl (SR fun _ K61=>Rm rfl (Rm rfl (Rm rfl (Ra rfl (Ra rfl (aj K61 rfl ?_))))))));clear H BQ K61;exact rR
  intro fZ a H
  try have p28:=dF fZ
  refine kP H (Kc BQ (SR fun _ K62=>Rm rfl (Rm rfl (Rm rfl (Ra rfl (Ra rfl (aj K62 rfl ?_)))))));clear H BQ K62;exact Dq
 intro h18 a H
 try have Ef:=dF h18
 refine kP H (SC (aX K3 rfl (SQ fun _ BR=>SR fun _ K64=>Rm rfl (Kz K64 (SB (SR fun _ K65=>Rc rfl (aj K65 rfl (Cd rfl ?_ ?_)))))))) <;> clear H K3 K64 K65
 ·intro h22 a H
  try have oK:=dT h22
  refine kP H (SC (aX BR rfl (SR fun _ K66=>Rm rfl (Rm rfl (Rm rfl (Ra rfl (Ra rfl (aj K66 rfl ?_))))))));clear H BR K66;exact Dq
 intro h22 a H
 try have oK:=dF h22
 refine kP H (SR fun _ K67=>Rc rfl (aj K67 rfl (Cd rfl ?_ ?_))) <;> clear H K67
 ·intro fC a H
  try have mR:=dT fC
  refine kP H (SC (aX BR rfl (SR fun _ K68=>Rm rfl (Rm rfl (Rm rfl (Ra rfl (Ra rfl (aj K68 rfl ?_))))))));clear H BR K68;exact Dq
 intro fC a H
 try have mR:=dF fC
 refine kP H (SR fun _ K69=>Rc rfl (aj K69 rfl (Cd rfl ?_ ?_))) <;> clear H K69
 ·intro jC a H
  try have p26:=dT jC
  refine kP H (SC (aX BR rfl (SR fun _ K70=>Rm rfl (Rm rfl (Rm rfl (Ra rfl (Ra rfl (aj K70 rfl ?_))))))));clear H BR K70;exact Dq
 intro jC a H
 try have p26:=dF jC
 refine kP H (SR fun _ K71=>Rc rfl (aj K71 rfl (Cd rfl ?_ ?_))) <;> clear H K71
 ·intro fZ a H
  try have p28:=dT fZ
  refine kP H (SC (aX BR rfl (SR fun _ K72=>Rm rfl (Rm rfl (Rm rfl (Ra rfl (Ra rfl (aj K72 rfl ?_))))))));clear H BR K72;exact Dq
 intro fZ a H
 try have p28:=dF fZ
 refine kP H (Kc BR (SR fun _ K73=>Rm rfl (Rm rfl (Rm rfl (Ra rfl (Ra rfl (aj K73 rfl ?_)))))));clear H BR K73;intro a H;refine eO ?_;refine (jU H results268 (.cons (fu H rfl) (.cons (fu H rfl) (.cons (fu H rfl) .nil))) ?_).1
 exact T9
def gU (s:ByteArray) (i:Nat):Int:=if h:i < s.size then (s[i].toNat:Int) else 0
theorem oQ {s:ByteArray} {i:Nat} (h:i < s.size):gU s i=(s[i].toNat:Int):=by simp [gU,h]
def sN (s:ByteArray) (at_ n:Nat):(fuel k:Nat)->(low high p:Int)->Int × Nat × Bool
 | 0,k,_,_,p=>(p,k,true)
 | f+1,k,low,high,p =>
  if n<=k then (p,k,true)
  else if s.size<=at_+k∨gU s (at_+k) < low∨high < gU s (at_+k) then (0,k,false)
  else sN s at_ n f (k+1) 128 191 (xD .or .i64 (IntKind.i64.wrap (p*2 ^ 6)) (xD .and .i64 (gU s (at_+k)) 63))
def mM (s:ByteArray) (at_:Nat):Int × Nat × Bool :=
 let b:=gU s at_
 let t:=yh b
 if t.2.2=0 then (0,0,false) else if t.2.2=1 then (b,1,true)
 else sN s at_ t.2.2.toNat 4 1 t.1 t.2.1 (xD .and .i64 b ((127:Int).fdiv (2 ^ t.2.2.toNat)))
theorem Zk (n:UInt8):IntKind.i64.wrap (n.toNat:Int)=(n.toNat:Int):=Il (by omega) (by have:=n.toNat_lt;omega)
theorem aax {p:Prop} (h:p:=by
 exact H.rt ⟨by rw [hfin];first|rw [mQ]|rw [dw],rfl⟩):p:=h
theorem Uq {p:Prop} (h:p:=by
 intro a H;refine eO ?_
 have hfin:mM s i=(if n<=k then (p,k,true) else (0,k,false)):=by
  rw [hdec];have e:5 - k=(4 - k)+1:=by omega
  rw [e,sN]
  by_cases hk2:n<=k
  ·rw [aG hk2,aG hk2]
  rw [av hk2,av hk2,aG (by first|omega|(rw [oQ (by omega)];omega))]
 refine (jU H results249 (.cons (fu H rfl) (.cons (fu H rfl) (.cons (fu H rfl) .nil))) ?_).1;exact aax):p:=h
set_option maxHeartbeats 1000000 in
theorem anT (G:GH) (w0:World) (hG:Hold G w0) (s:ByteArray) (i:Nat) (hi:i < s.size) (hs:s.size < 4611686018427387904) :
  Calls prog 249 #[.string s,.int .i64 i] w0 (bK w0 G fun v G'=>v=.tuple #[.int .i64 (mM s i).1,.int .i64 (mM s i).2.1,.bool (mM s i).2.2]∧G=G'):=by
 have hb:=oQ hi;obtain ⟨n,hn⟩:∃ n:Nat,(yh (gU s i)).2.2=(n:Int):=⟨(yh (gU s i)).2.2.toNat,by have:=Ze (gU s i);omega⟩
 have hn4:n<=4:=by have:=Ze (gU s i);omega
 refine eN [(0,_),(1,_)] func249 rfl ntmps249 rfl rfl hG ?_;intro a H;refine kP H (SR fun _ K1=>Ra rfl (Ra rfl (aj K1 rfl (SR fun _ K2=>Rm rfl (Rm rfl ?_)))));clear H K1;intro a H;refine qW _ iY H wn rfl rfl rfl (by first|assumption|omega) rfl ?_;clear H;intro a H;refine kH H (Ra rfl ?_);clear H;intro a H;rw [<- hb] at H;refine K2 _ _ ?_;clear K2;refine kP H (SR fun _ K3=>Rm rfl ?_);clear H;intro a H;refine s_call aqg H wn rfl (aAC _ _ H.ro _) rfl ?_;clear H;rintro v16 _ a w ⟨rfl,rfl⟩ - H;refine kH H (Rm rfl ?_);clear H;intro a H;(iterate 3 refine mg H wn rfl rfl rfl ?_;clear H;intro a H);refine kH H (Ra rfl (Ra rfl (aj K3 rfl (SQ fun _ K4=>SR fun _ K5=>Rm rfl (Kz K5 (SB (SR fun _ K6=>Rc rfl (aj K6 rfl (Cd rfl ?_ ?_))))))))) <;> clear H K3 K5 K6
 ·intro h21 a H
  try have wU:=dT h21
  refine kP H (SR fun _ K7=>Ra rfl (Ra rfl (aj K7 rfl ?_)));clear H K7;intro a H;refine eO ?_;skip;refine (jU H results249 (.cons (fu H rfl) (.cons (fu H rfl) (.cons (fu H rfl) .nil))) ?_).1;exact H.rt ⟨by simp [mM,wU],rfl⟩
 intro h21 a H
 try have wU:=dF h21
 refine kP H (SR fun _ K8=>Rc rfl (aj K8 rfl (Cd rfl ?_ ?_))) <;> clear H K8
 ·intro h23 a H
  try have Bq:=dT h23
  refine kP H (SR fun _ K9=>Rm rfl ?_);clear H;intro a H;refine CV (gU s i) mh Oh H wn rfl (by rw [hb];exact Zk _) rfl ?_;clear H;intro a H;refine kH H (Ra rfl (Ra rfl (aj K9 rfl ?_)));clear H K9;intro a H;refine eO ?_;skip;refine (jU H results249 (.cons (fu H rfl) (.cons (fu H rfl) (.cons (fu H rfl) .nil))) ?_).1;exact H.rt ⟨by simp [mM,wU,Bq],rfl⟩
 intro h23 a H
 try have Bq:=dF h23
 refine kP H (Kc K4 (SR fun _ aW=>Rm rfl ?_));clear H K4;intro a H;refine CV (gU s i) mh Oh H wn rfl (by rw [hb];exact Zk _) rfl ?_;clear H;intro a H;refine kH H (Rm rfl ?_);clear H;intro a H;refine Sq n H wn rfl rfl (by rw [hn]) (by show n<=64;omega) rfl ?_;clear H;intro a H;refine Sk rfl H wn rfl rfl rfl ?_;clear H;intro a H;refine kH H (aj aW rfl (SQ fun _ bM=>SR fun _ bU=>aj bU rfl (SB ?_)));clear H aW bU;intro a H;skip;refine eX (ι:=Nat × Int × Int × Int) (Tc:=[(0,_),(1,_),(10,_)]) (Lc:=[]) (fun gh=>[(4,.int .i64 gh.2.2.2),(5,.int .i64 (gh.1:Int)),(8,.int .u8 gh.2.1),(9,.int .u8 gh.2.2.1)]) (fun gh=>[]) (fun gh=>G) (fun gh=>gh.1<=4∧mM s i=sN s i n (5 - gh.1) gh.1 gh.2.1 gh.2.2.1 gh.2.2.2) (fun gh=>5 - gh.1) ((1,_,_,_)) (by exact H.sub ⟨rfl,rfl,rfl,rfl,rfl,rfl,rfl,aB⟩) ?_ ?_
 ·refine ⟨by omega,?_⟩;simp only [mM,hn];rw [dw,dw];rfl
 clear H;rintro ⟨k,low,high,p⟩ a w hI H;dsimp only at hI H;obtain ⟨hk,hdec⟩:=hI;dsimp only [lca,bJ] at H;refine kP H (SQ fun _ bY=>SR fun _ cZ=>Rm rfl (Rm rfl (Rc rfl (Kz cZ (Cd rfl ?_ ?_))))) <;> clear H cZ
 ·intro fq a H
  try have p34:=dT fq
  refine kP H (Kc bY (SQ fun _ dQ=>SB (SQ fun _ dR=>SR fun _ dK=>Rm rfl (Rm rfl (Rd rfl (Rm rfl (Rv iY rfl (Rc rfl (Rm rfl (Sp 43 rfl ?_ ?_)))))))))) <;> clear H bY
  ·intro h43 a H
   try have p43:=dT h43
   refine kH H (bB h43 rfl (aP h43 rfl (aP h43 rfl (Pt h43 rfl (Rm rfl (bB rfl rfl (aP rfl rfl (aP rfl rfl (Pt rfl rfl (Kz dK (Ct rfl rfl (SR fun _ dX=>Rm rfl (Ra rfl (Ra rfl (aj dX rfl ?_)))))))))))))));clear H dK dX;exact Uq
  intro h43 a H
  try have p43:=dF h43
  refine kH H (YM h43 rfl (YM h43 rfl (YM h43 rfl ?_)));clear H;intro a H;refine NY _ H (wg H rfl rfl h43) rfl rfl rfl (by omega) (by omega) rfl ?_;clear H;intro a H;refine qW _ iY H (wg H rfl rfl h43) rfl rfl rfl (by first|assumption|omega) rfl ?_;clear H;intro a H;refine kH H (YM h43 rfl (YC h43 rfl (Pf h43 rfl (Rm rfl (Sp 52 rfl ?_ ?_))))) <;> clear H
  ·intro qx a H
   try have p52:=dT qx
   refine kH H (bB qx rfl (aP qx rfl (aP qx rfl (Pt qx rfl (Kz dK (Ct rfl rfl (SR fun _ fM=>Rm rfl (Ra rfl (Ra rfl (aj fM rfl ?_))))))))));clear H dK fM;exact Uq
  intro qx a H
  try have p52:=dF qx
  refine kH H (YM qx rfl (YM qx rfl (YM qx rfl ?_)));clear H;intro a H;refine NY _ H (wg H rfl rfl qx) rfl rfl rfl (by omega) (by omega) rfl ?_;clear H;intro a H;refine qW _ iY H (wg H rfl rfl qx) rfl rfl rfl (by first|assumption|omega) rfl ?_;clear H;intro a H;refine kH H (YM qx rfl (YC qx rfl (Pf qx rfl (Kz dK (Cd rfl ?_ ?_))))) <;> clear H dK
  ·intro kG a H
   try have p60:=dT kG
   refine kP H (SR fun _ eP=>Rm rfl (Ra rfl (Ra rfl (aj eP rfl ?_))));clear H eP;exact Uq
  intro kG a H
  try have p60:=dF kG
  refine kP H (Kc dR (SR fun _ gB=>Rm rfl ?_));clear H dR;intro a H;refine azp _ H wn rfl rfl rfl (by decide) rfl ?_;clear H;intro a H;refine kH H (Rm rfl (Rm rfl (Rm rfl (Rd rfl ?_))));clear H;intro a H;refine qW _ iY H wn rfl rfl rfl (by first|assumption|omega) rfl ?_;clear H;intro a H;refine CV (gU s (i+k)) mh Oh H wn rfl (by rw [oQ (by omega)];exact Zk _) rfl ?_;clear H;intro a H;(iterate 2 refine Sk rfl H wn rfl rfl rfl ?_;clear H;intro a H);refine kH H (aj gB rfl (SC (Ra rfl (aX dQ rfl (SC (Rm rfl (Rd rfl (Ra rfl ?_))))))));clear H gB dQ;intro a H;refine aD ?_;refine dG ((k+1,128,191,xD .or .i64 (IntKind.i64.wrap (p*2 ^ 6)) (xD .and .i64 (gU s (i+k)) 63))) (by exact H.sub ⟨rfl,rfl,rfl,rfl,rfl,rfl,rfl,aB⟩) ?_
  (try dsimp only);refine ⟨by omega,?_⟩
  have e:5 - k=(5 - (k+1))+1:=by omega
  rw [hdec,e,sN,dw,oQ (by omega),dw]
 intro fq a H
 try have p34:=dF fq
 refine dP ?_;refine bM _ _ ?_;clear bM;refine kP H (SR fun _ iH=>Rm rfl (Rm rfl (Ra rfl (Ra rfl (aj iH rfl ?_)))));clear H iH;intro a H;refine eO ?_
 have hfin:mM s i=(if n<=k then (p,k,true) else (0,k,false)):=by
  rw [hdec];have e:5 - k=(4 - k)+1:=by omega
  rw [e,sN]
  by_cases hk2:n<=k
  ·rw [aG hk2,aG hk2]
  rw [av hk2,av hk2,aG (by first|omega|(rw [oQ (by omega)];omega))]
 refine (jU H results249 (.cons (fu H rfl) (.cons (fu H rfl) (.cons (fu H rfl) .nil))) ?_).1;exact aax
theorem aeb (s:ByteArray) (at_ n:Nat):∀ (f k:Nat) (low high p:Int),n<=k+f->k<=n->k<=(sN s at_ n f k low high p).2.1∧(sN s at_ n f k low high p).2.1<=n∧((sN s at_ n f k low high p).2.2=true->at_+k<=s.size->at_+(sN s at_ n f k low high p).2.1<=s.size)
 | 0,k,low,high,p,h1,h2=>by simp only [sN];omega
 | f+1,k,low,high,p,h1,h2=>by
  unfold sN
  split
  ·simp only [];omega
  split
  ·simp only [];omega
  have ih:=aeb s at_ n f (k+1) 128 191 (xD .or .i64 (IntKind.i64.wrap (p*2 ^ 6)) (xD .and .i64 (gU s (at_+k)) 63)) (by omega) (by omega);refine ⟨by have:=ih.1;omega,ih.2.1,fun h3 h4=>ih.2.2 h3 (by omega)⟩
theorem PU (s:ByteArray) (i:Nat) (hi:i < s.size):(mM s i).2.1<=4∧((mM s i).2.2=true->1<=(mM s i).2.1∧i+(mM s i).2.1<=s.size):=by
 have ht:=Ze (gU s i)
 unfold mM
 simp only []
 split
 ·simp
 split
 ·simp;omega
 have:=aeb s i (yh (gU s i)).2.2.toNat 4 1 (yh (gU s i)).1 (yh (gU s i)).2.1 (xD .and .i64 (gU s i) ((127:Int).fdiv (2 ^ (yh (gU s i)).2.2.toNat))) (by omega) (by omega);refine ⟨by omega,fun h=>⟨by omega,this.2.2 h (by omega)⟩⟩
def uQ (s:ByteArray) (i:Nat):Int :=
 if h:i < s.size then (if h2:(mM s i).2.2=true then uQ s (i+(mM s i).2.1) else i) else -1
 termination_by s.size - i
 decreasing_by have:=(PU s i h).2 h2;omega
theorem arE (G:GH) (w0:World) (hG:Hold G w0) (s:ByteArray) (hs:s.size < 4611686018427387904) :
  Calls prog 225 #[.string s] w0 (bK w0 G fun v G'=>v=.int .i64 (uQ s 0)∧G=G'):=by
 refine eN [(0,_)] func225 rfl ntmps225 rfl rfl hG ?_;intro a H;refine kP H (SR fun _ K1=>aj K1 rfl (SQ fun _ K2=>SR fun _ K3=>aj K3 rfl (SB ?_)));clear H K1 K3;intro a H;skip;refine eX (ι:=Nat) (Tc:=[(0,_)]) (Lc:=[]) (fun gh=>[(3,.int .i64 (gh:Int))]) (fun gh=>[]) (fun gh=>G) (fun gh=>gh<=s.size∧uQ s 0=uQ s gh) (fun gh=>s.size - gh) (0) (by exact H.sub ⟨rfl,rfl,aB⟩) ?_ ?_
 ·exact ⟨by omega,rfl⟩
 clear H;intro i a w hI H;obtain ⟨hk,hf⟩:=hI;dsimp only [lca,bJ] at H;refine kP H (SQ fun _ K4=>SR fun _ K5=>Rm rfl (Rm rfl (Rv iY rfl (Rc rfl (Kz K5 (Cd rfl ?_ ?_)))))) <;> clear H K5
 ·intro h10 a H
  try have nN:=dT h10
  refine kP H (Kc K4 (SB (SR fun _ K6=>Rm rfl (Rm rfl ?_))));clear H K4;intro a H;refine s_call apV H wn rfl (anT _ _ H.ro s i (by omega) hs) rfl ?_;clear H;rintro v14 _ a w ⟨rfl,rfl⟩ - H;have hd:=PU s i (by omega);refine kH H (Rm rfl ?_);clear H;intro a H;(iterate 3 refine mg H wn rfl rfl rfl ?_;clear H;intro a H);refine kH H (Ra rfl (Ra rfl (aj K6 rfl (SQ fun _ K7=>SR fun _ K8=>Rm rfl (Rn rfl (Kz K8 (Cd rfl ?_ ?_))))))) <;> clear H K6 K8
  ·intro h19 a H
   try have tC:=dT h19
   exact kP H (SR fun _ K9=>Rm rfl (aj K9 rfl (LR results225 rfl fun H=>H.rt ⟨by rw [hf,uQ,dif_pos (by omega),dif_neg (by simpa using h19)],rfl⟩)))
  intro h19 a H
  try have tC:=dF h19
  refine kP H (Kc K7 (SC (Rm rfl (Rm rfl (Rd rfl (Ra rfl ?_))))));clear H K7;intro a H;refine aD ?_;refine X5 ((i+(mM s i).2.1)) (by exact H.sub ⟨rfl,rfl,aB⟩) ?_ ?_
  ·have h1:(mM s i).2.2=true:=by simpa using h19
   have h2:=hd.2 h1;refine ⟨by omega,?_⟩;rw [hf,uQ,dif_pos (by omega),dif_pos h1]
  have h1:(mM s i).2.2=true:=by simpa using h19
  have h2:=hd.2 h1
  omega
 intro h10 a H
 try have nN:=dF h10
 refine dP ?_;refine K2 _ _ ?_;clear K2;exact kP H (SR fun _ aW=>aj aW rfl (LR results225 rfl fun H=>H.rt ⟨by rw [hf,uQ,dif_neg (by omega)],rfl⟩))
def sG (s:ByteArray):Bool:=decide (uQ s 0 < 0)
theorem Om (G:GH) (w0:World) (hG:Hold G w0) (s:ByteArray) (hs:s.size < 4611686018427387904) :
  Calls prog 193 #[.string s] w0 (bK w0 G fun v G'=>v=.bool (sG s)∧G=G'):=by
 refine eN [(0,_)] func193 rfl ntmps193 rfl rfl hG ?_;intro a H;refine kP H (SR fun _ K1=>aj K1 rfl (SR fun _ K2=>Rm rfl ?_));clear H K1;intro a H;refine s_call apJ H wn rfl (arE _ _ H.ro s hs) rfl ?_;clear H;rintro v4 _ a w ⟨rfl,rfl⟩ - H;exact kH H (Rc rfl (aj K2 rfl (LR results193 rfl fun H=>H.rt ⟨rfl,rfl⟩)))
def rz (s:ByteArray) (i:Nat):Nat :=
 if i < s.size then (if xD .and .u8 (gU s i) 192=128 then 0 else 1)+rz s (i+1) else 0
 termination_by s.size - i
theorem adL (s:ByteArray):∀ (n i:Nat),s.size - i=n->rz s i<=n
 | 0,i,h=>by rw [rz,dw];exact eu _
 | n+1,i,h=>by
  have ih:=adL s n (i+1) (by omega);rw [rz,mQ]
  split <;> omega
def uM (s:ByteArray):Nat:=if sG s then rz s 0 else 0
def Lm (s:ByteArray):Int:=if sG s then 0 else 12
theorem Vg (s:ByteArray):uM s<=s.size:=by unfold uM;have:=adL s s.size 0 (by omega);split <;> omega
theorem adQ (G:GH) (w0:World) (hG:Hold G w0) (s:ByteArray) (hs:s.size < 4611686018427387904) :
  Calls prog 197 #[.string s] w0 (bK w0 G fun v G'=>v=.tuple #[vi (uM s),vi (Lm s)]∧G=G'):=by
 refine eN [(0,_)] func197 rfl ntmps197 rfl rfl hG ?_;intro a H;refine kP H (SR fun _ K1=>Ra rfl (aj K1 rfl (SQ fun _ K2=>SR fun _ K3=>Rm rfl ?_)));clear H K1;intro a H;refine s_call MJ H wn rfl (Om _ _ H.ro s hs) rfl ?_;clear H;rintro v6 _ a w ⟨rfl,rfl⟩ - H;refine kH H (Rn rfl (Kz K3 (Cd rfl ?_ ?_))) <;> clear H K3
 ·intro h7 a H
  refine kP H (SR fun _ K4=>Ra rfl (aj K4 rfl ?_));clear H K4;intro a H;refine eO ?_;refine (jU H results197 (.cons (fu H rfl) (.cons (fu H rfl) .nil)) ?_).1;exact H.rt ⟨by simp [uM,Lm,show sG s=false by simpa using h7],rfl⟩
 intro h7 a H
 try have p7:=dF h7
 refine kP H (Kc K2 (SQ fun _ K5=>SR fun _ K6=>Rm rfl (Rv iY rfl (Rm rfl (Kz K6 (SB ?_))))));clear H K2 K6;intro a H;skip;refine eX (ι:=Nat × Nat) (Tc:=[(0,_),(9,_)]) (Lc:=[]) (fun gh=>[(2,vi gh.2),(10,vi gh.1)]) (fun gh=>[]) (fun gh=>G) (fun gh=>gh.1<=s.size∧gh.2<=gh.1∧gh.2+rz s gh.1=uM s) (fun gh=>s.size - gh.1) ((0,0)) (by exact H.sub ⟨rfl,rfl,rfl,rfl,aB⟩) ?_ ?_
 ·exact ⟨by omega,by omega,by simp [uM,show sG s=true by simpa using h7]⟩
 clear H;rintro ⟨i,n⟩ a w hI H;dsimp only at hI H;obtain ⟨hk,hn,hf⟩:=hI;dsimp only [lca,bJ] at H;refine kP H (SR fun _ K7=>Rc rfl (Kz K7 (SQ fun _ K8=>Cd rfl ?_ ?_))) <;> clear H K7
 ·intro h11 a H
  try have sj:=dT h11
  refine kP H (Kc K8 (SQ fun _ K9=>SB (SR fun _ aW=>Rm rfl (aj aW rfl (SR fun _ bM=>Rm rfl (Rm rfl ?_))))));clear H K8 aW;intro a H;refine qW _ iY H wn rfl rfl rfl (by first|assumption|omega) rfl ?_;clear H;intro a H;refine Sk rfl H wn rfl rfl rfl ?_;clear H;intro a H;refine kH H (Rc rfl (Kz bM (Cd rfl ?_ ?_))) <;> clear H bM
  ·intro fE a H
   try have og:=dT fE
   refine kP H (SC (Rm rfl (Rd rfl (aX K9 rfl (SC (Rd rfl (Rm rfl ?_)))))));clear H K9;intro a H;refine aD ?_;refine dG ((i+1,n+1)) (by exact H.sub ⟨rfl,rfl,rfl,rfl,aB⟩) ?_
   (try dsimp only);rw [<- oQ (by omega)] at og;rw [rz,mQ,av og] at hf;exact ⟨by omega,by omega,by omega⟩
  intro fE a H
  try have og:=dF fE
  refine kP H (Kc K9 (SC (Rd rfl (Rm rfl ?_))));clear H K9;intro a H;refine aD ?_;refine dG ((i+1,n)) (by exact H.sub ⟨rfl,rfl,rfl,rfl,aB⟩) ?_
  (try dsimp only);rw [<- oQ (by omega),nV] at og;rw [rz,mQ,aG og] at hf;exact ⟨by omega,by omega,by omega⟩
 intro h11 a H
 try have sj:=dF h11
 refine dP ?_;refine K5 _ _ ?_;clear K5;refine kP H (SR fun _ bU=>Rm rfl (Ra rfl (aj bU rfl ?_)));clear H bU;intro a H;refine eO ?_;refine (jU H results197 (.cons (fu H rfl) (.cons (fu H rfl) .nil)) ?_).1;exact H.rt ⟨by rw [rz,dw,zy] at hf;rw [hf];simp [Lm,show sG s=true by simpa using h7],rfl⟩
theorem hmx:prog.follows .mixedOrders=true:=by kernel_rfl
theorem jF:dH prog 68 0 0:=⟨by kernel_rfl⟩
theorem aC:Ty prog 3 1 8 [.int .i64 0] false:=⟨by kernel_rfl,by kernel_rfl⟩
theorem wD:dH prog 68 3 3:=⟨by kernel_rfl⟩
theorem jg:Ty prog 9 1 16 [.string ⟨#[]⟩] false:=⟨by kernel_rfl,by kernel_rfl⟩
theorem aeH:aQ 197:=aR func197 rfl
theorem jq:prog.underlying 22=some (.slice 68):=by kernel_rfl
theorem gq:Ty prog 68 11 176 [.int .i64 0,.int .i64 0,.int .i64 0,.string ⟨#[]⟩,.slice none 0 0,.int .i64 0,.int .i64 0,.slice none 0 0,.slice none 0 0,.slice none 0 0,.slice none 0 0] true:=⟨by kernel_rfl,by kernel_rfl⟩
theorem aoL:aQ 143:=aR func143 rfl
theorem gT:prog.underlying 23=some (.slice 187):=by kernel_rfl
theorem iq:Ty prog 187 2 16 [.int .i64 0,.int .i64 0] true:=⟨by kernel_rfl,by kernel_rfl⟩
theorem oz:prog.underlying 24=some (.slice 159):=by kernel_rfl
theorem om:Ty prog 159 2 16 [.int .i64 0,.int .i64 0] true:=⟨by kernel_rfl,by kernel_rfl⟩
theorem lK:prog.underlying 25=some (.slice 161):=by kernel_rfl
theorem jN:Ty prog 161 4 32 [.int .i64 0,.int .i64 0,.int .i64 0,.bool false] true:=⟨by kernel_rfl,by kernel_rfl⟩
theorem fH:Ty prog 29 5 88 [.slice none 0 0,.int .i64 0,.int .i64 0,.slice none 0 0,.slice none 0 0] true:=⟨by kernel_rfl,by kernel_rfl⟩
theorem yL:dH prog 29 0 0:=⟨by kernel_rfl⟩
theorem vk:Ty prog 23 1 24 [.slice none 0 0] false:=⟨by kernel_rfl,by kernel_rfl⟩
theorem PX:aQ 168:=aR func168 rfl
theorem qo:dH prog 29 1 1:=⟨by kernel_rfl⟩
theorem tY:dH prog 27 2 2:=⟨by kernel_rfl⟩
theorem uw:Ty prog 24 1 24 [.slice none 0 0] false:=⟨by kernel_rfl,by kernel_rfl⟩
theorem apb:aQ 169:=aR func169 rfl
theorem Az:dH prog 27 3 3:=⟨by kernel_rfl⟩
theorem BD:Ty prog 25 1 24 [.slice none 0 0] false:=⟨by kernel_rfl,by kernel_rfl⟩
theorem apc:aQ 170:=aR func170 rfl
theorem nP:prog.underlying 66=some (.slice 74):=by kernel_rfl
theorem jV:Ty prog 74 6 112 [.slice none 0 0,.int .i64 0,.int .i64 0,.slice none 0 0,.slice none 0 0,.slice none 0 0] true:=⟨by kernel_rfl,by kernel_rfl⟩
theorem qH:prog.underlying 72=some (.slice 76):=by kernel_rfl
theorem lg:Ty prog 76 7 120 [.int .i64 0,.slice none 0 0,.int .i64 0,.int .i64 0,.slice none 0 0,.slice none 0 0,.slice none 0 0] true:=⟨by kernel_rfl,by kernel_rfl⟩
theorem MV:dH prog 76 0 0:=⟨by kernel_rfl⟩
theorem Qe:dH prog 76 1 1:=⟨by kernel_rfl⟩
theorem PW:aQ 108:=aR func108 rfl
theorem GZ:dH prog 76 2 6:=⟨by kernel_rfl⟩
theorem kC:Ty prog 22 1 24 [.slice none 0 0] false:=⟨by kernel_rfl,by kernel_rfl⟩
theorem VB:aQ 80:=aR func80 rfl
theorem Y6:qK prog 76 [(0,1),(1,5),(6,1)] [.int .i64 0,.slice none 0 0,.int .i64 0,.int .i64 0,.slice none 0 0,.slice none 0 0,.slice none 0 0]:=⟨by kernel_rfl,by kernel_rfl⟩
theorem Qd:dH prog 74 0 0:=⟨by kernel_rfl⟩
theorem zN:dH prog 74 1 5:=⟨by kernel_rfl⟩
theorem Ad:Ty prog 72 1 24 [.slice none 0 0] false:=⟨by kernel_rfl,by kernel_rfl⟩
theorem aeC:aQ 172:=aR func172 rfl
theorem Y5:qK prog 74 [(0,5),(5,1)] [.slice none 0 0,.int .i64 0,.int .i64 0,.slice none 0 0,.slice none 0 0,.slice none 0 0]:=⟨by kernel_rfl,by kernel_rfl⟩
theorem yN:dH prog 68 4 4:=⟨by kernel_rfl⟩
theorem zM:dH prog 68 5 9:=⟨by kernel_rfl⟩
theorem tZ:dH prog 68 6 10:=⟨by kernel_rfl⟩
theorem uy:Ty prog 66 1 24 [.slice none 0 0] false:=⟨by kernel_rfl,by kernel_rfl⟩
theorem aeu:aQ 110:=aR func110 rfl
theorem aez:aQ 140:=aR func140 rfl
theorem apz:aQ 203:=aR func203 rfl
theorem aoK:aQ 142:=aR func142 rfl
theorem aoJ:aQ 141:=aR func141 rfl
def jw (x:ak):Nat:=if x.kind=1 then uM x.text else 1
def Dc (x:ak):Int:=if x.kind=1 then Lm x.text else 0
theorem aAM (G:GH) (w0:World) (hG:Hold G w0) (x:ak) (i2 i3:Int) (p i5 i6 d l f r:ah) (hs:x.text.size < 4611686018427387904) :
  Calls prog 143 #[.agg #[vi x.kind,vi i2,vi i3,.string x.text,p,i5,i6,d,l,f,r]] w0 (bK w0 G fun v G'=>v=.tuple #[vi (jw x),vi (Dc x)]∧G=G'):=by
 refine eN [(0,_)] func143 rfl ntmps143 rfl rfl hG ?_;intro a H;refine cO (fun _ K1=>?_);refine dW (cs:=[_,_,_,_,_,_,_,_,_,_,_]) H wn rfl rfl rfl ?_;clear H;intro b1 a w hb1 H;refine kH H (Ra rfl (aj K1 rfl (SQ fun _ K2=>SR fun _ K3=>bq jF aC 0 rfl rfl (Rc rfl (Kz K3 (Cd rfl ?_ ?_)))))) <;> clear H K1 K3
 ·intro h6 a H
  try have p6:=dT h6
  refine kP H (SR fun _ K4=>Ra rfl (aj K4 rfl ?_));clear H K4;intro a H;refine eO ?_;refine (jU H results143 (.cons (fu H rfl) (.cons (fu H rfl) .nil)) ?_).1;exact H.rt ⟨by simp only [jw,Dc,av p6];rfl,rfl⟩
 intro h6 a H
 try have p6:=dF h6
 refine kP H (Kc K2 (SR fun _ K5=>bq wD jg 0 rfl rfl ?_));clear H K2;intro a H;refine s_call aeH H wn rfl (adQ _ _ H.ro _ hs) rfl ?_;clear H;rintro v9 _ a w ⟨rfl,rfl⟩ - H;(iterate 2 refine mg H wn rfl rfl rfl ?_;clear H;intro a H);refine kH H (Ra rfl (aj K5 rfl ?_));clear H K5;intro a H;refine eO ?_;refine (jU H results143 (.cons (fu H rfl) (.cons (fu H rfl) .nil)) ?_).1;exact H.rt ⟨by rw [nV] at p6;simp only [jw,Dc,aG p6],rfl⟩
def zK (l:List ak):Bool:=l.all fun x=>decide (Dc x=0)
def uq:List ak->Nat
 | []=>0
 | x :: l=>jw x+uq l
def wP (l:List ak):Int:=if zK l then uq l else 0
def XY (l:List ak):Int:=if zK l then 0 else 12
def mW:List ak->Nat
 | []=>0
 | x :: l=>x.text.size+1+mW l
theorem Zc:∀ l:List ak,uq l<=mW l
 | []=>eu _
 | x :: l=>by
  have:=Zc l;have h2:=Vg x.text
  simp only [uq,mW,jw];split <;> omega
theorem ajV {x:ak}:∀ {l:List ak},x∈l->x.text.size < mW l
 | [],h=>by cases h
 | y :: l,h=>by
  simp only [mW]
  rcases fV.1 h with rfl|h
  ·omega
  have:=ajV h;omega
theorem aAz (l m:List ak):uq (l++m)=uq l+uq m:=by
 induction l with
 | nil=>simp [uq]
 | cons x l ih=>simp [uq,ih];omega
theorem aAA {l:List ak} {k:Nat} (h:k < l.length):uq (l.take (k+1))=uq (l.take k)+jw l[k]:=by
 rw [kg h,aAz];simp [uq]
theorem IU (l m:List ak):mW (l++m)=mW l+mW m:=by
 induction l with
 | nil=>simp [mW]
 | cons x l ih=>simp [mW,ih];omega
theorem Zg (l:List ak) (k:Nat):mW (l.take k)<=mW l:=by
 have:=IU (l.take k) (l.drop k);rw [List.take_append_drop] at this;omega
theorem DF {G:GH} {l:List ak} {A:Option Addr} {k:Nat} (hk:k < l.length) (hg:∀ k r,(l.map ak.dat)[k]?=some r->∃ b o cs,A=some ⟨b,o,none⟩∧cs.length=11∧(∀ j u,cs[j]?=some u->aH G b (o+k*11+j)=some u)∧aY G r cs) :
  ∃ b o pA pn pc dA dn dc yA yn yc fA fn fc rA rn rc,A=some ⟨b,o,none⟩∧(∀ j u,[vi l[k].kind,vi l[k].code,vi l[k].id,.string l[k].text,.slice pA pn pc,vi l[k].head.marks.ins,vi l[k].head.marks.move,.slice dA dn dc,.slice yA yn yc,.slice fA fn fc,.slice rA rn rc][j]?=some u->aH G b (o+k*11+j)=some u) ∧
   jy G l[k].head (.slice pA pn pc) (.slice dA dn dc) (.slice yA yn yc)∧au G (.sl 11 (l[k].flow.map ak.dat)) (.slice fA fn fc)∧au G (.sl 6 (l[k].rows.map aS.dat)) (.slice rA rn rc):=by
 obtain ⟨b,o,cs,h1,h2,h3,h4⟩:=hg k l[k].dat (by simp [hk]);obtain ⟨pA,pn,pc,dA,dn,dc,yA,yn,yc,fA,fn,fc,rA,rn,rc,rfl,h5,h6,h7⟩:=h4.item;exact ⟨b,o,pA,pn,pc,dA,dn,dc,yA,yn,yc,fA,fn,fc,rA,rn,rc,h1,h3,h5,h6,h7⟩
theorem anZ {l:List ak} {k:Nat} (h:k < l.length):zK (l.take (k+1))=(zK (l.take k) && decide (Dc l[k]=0)):=by
 unfold zK
 rw [kg h,List.all_append];simp
theorem anY {l:List ak} {k:Nat} (h:k < l.length) (hn:¬ Dc l[k]=0):zK l=false:=by
 unfold zK
 rw [List.all_eq_false];exact ⟨l[k],jB h,by simpa using hn⟩
theorem Q5:∀ l:List ak,l.length<=mW l
 | []=>eu _
 | x :: l=>by have:=Q5 l;simp only [kS,mW];omega
theorem SE:∀ l:List ak,mW l<=bO l
 | []=>eu _
 | x :: l=>by
  have:=SE l;have h2:=wY x
  simp only [mW,bO,eZ,dU] at *;omega
theorem avU (G:GH) (w0:World) (hG:Hold G w0) (l:List ak) (v:ah) (hv:au G (.sl 11 (l.map ak.dat)) v) (hz:bO l<=4294967296) :
  Calls prog 81 #[v] w0 (bK w0 G fun v G'=>v=.tuple #[vi (wP l),vi (XY l)]∧G=G'):=by
 obtain ⟨A,c,rfl,hc1,hc2,hg⟩:=hv.slice;rw [bQ] at *;have hll:=Q5 l;have htz:=SE l;refine eN [(0,_)] func81 rfl ntmps81 rfl rfl hG ?_;intro a H;refine kP H (SR fun _ K1=>Ra rfl (aj K1 rfl (SR fun _ K2=>aj K2 rfl (SQ fun _ K3=>SR fun _ K4=>Rm rfl (Rl jq rfl (Rm rfl (Kz K4 (SB ?_))))))));clear H K1 K2 K4;intro a H;skip;refine eX (ι:=Nat) (Tc:=[(9,_),(10,_)]) (Lc:=[]) (fun gh=>[(4,vi (uq (l.take gh))),(11,vi gh)]) (fun gh=>[]) (fun gh=>G) (fun gh=>gh<=l.length∧zK (l.take gh)=true) (fun gh=>l.length - gh) (0) (by exact H.sub ⟨rfl,rfl,rfl,rfl,aB⟩) ?_ ?_
 ·exact ⟨by omega,by simp [zK]⟩
 clear H;intro k a w hI H;obtain ⟨hk,hd⟩:=hI;dsimp only [lca,bJ] at H;refine kP H (SR fun _ K5=>Rc rfl (Kz K5 (SQ fun _ K6=>Cd rfl ?_ ?_))) <;> clear H K5
 ·intro h12 a H
  try have qD:=dT h12
  have hk2:k < l.length:=by omega
  obtain ⟨b,o,pA,pn,pc,dA,dn,dc,yA,yn,yc,fA,fn,fc,rA,rn,rc,rfl,hrow,-⟩:=DF hk2 hg;have hsm:=aAA hk2;have hle:=Zc (l.take (k+1));have hle2:=Zg l (k+1);refine kP H (Kc K6 (SQ fun _ K7=>SB (SR fun _ K8=>Ri jq gq rfl rfl ?_)));clear H K6;intro a H;refine bP gq (cs:=[_,_,_,_,_,_,_,_,_,_,_]) H wn rfl rfl (fun j v hj=>H.hp.aH (hrow j v hj)) rfl ?_;clear H;intro a H;refine dO gq H wn rfl ?_;clear H;intro b6 a w hb6 H;refine bC gq 0 (vs:=[_,_,_,_,_,_,_,_,_,_,_]) H wn rfl ?_;clear H;intro w H;refine K8 _ _ ?_;clear K8;refine cO (fun _ K9=>?_);refine bP gq (cs:=[_,_,_,_,_,_,_,_,_,_,_]) H wn rfl rfl (H.hp.dx 0 rfl rfl) rfl ?_;clear H;intro a H;refine s_call aoL H wn rfl (aAM _ _ H.ro _ _ _ _ _ _ _ _ _ _ (by have:=ajV (jB hk2);omega)) rfl ?_;clear H;rintro v17 _ a w ⟨rfl,rfl⟩ - H;refine kH H (Rm rfl ?_);clear H;intro a H;(iterate 2 refine mg H wn rfl rfl rfl ?_;clear H;intro a H);refine kH H (Ra rfl (aj K9 rfl (SQ fun _ aW=>SR fun _ bM=>Rm rfl (Rc rfl (Kz bM (Cd rfl ?_ ?_)))))) <;> clear H K9 bM
  ·intro h21 a H
   try have wU:=dT h21
   refine kP H (SR fun _ bU=>Ra rfl (aj bU rfl ?_));clear H bU;intro a H;refine eO ?_;refine (jU H results81 (.cons (fu H rfl) (.cons (fu H rfl) .nil)) ?_).1;exact H.rt ⟨by simp [wP,XY,anY hk2 wU],rfl⟩
  intro h21 a H
  try have wU:=dF h21
  refine kP H (Kc aW (SC (Rm rfl (Rm rfl (Rd rfl ?_)))));clear H aW;intro a H;rw [<- Int.natCast_add,<- hsm] at H;refine kH H (aX K7 rfl (SC (Rd rfl (Rm rfl ?_))));clear H K7;intro a H;refine aD ?_;refine dG ((k+1)) (by exact (H.eD (Pl:=[_]) (dN:=[]) [] (by decide) rfl).sub ⟨rfl,rfl,rfl,rfl,aB⟩) ?_
  exact ⟨by omega,by rw [anZ hk2,hd];simpa using wU⟩
 intro h12 a H
 try have qD:=dF h12
 refine dP ?_;refine K3 _ _ ?_;clear K3;refine kP H (SR fun _ bY=>Rm rfl (Ra rfl (aj bY rfl ?_)));clear H bY;intro a H;refine eO ?_;refine (jU H results81 (.cons (fu H rfl) (.cons (fu H rfl) .nil)) ?_).1;exact H.rt ⟨by rw [show l.take k=l from nU (by omega)] at hd |-;simp [wP,XY,hd],rfl⟩
theorem Va (G:GH) (w0:World) (hG:Hold G w0) (rows:List (List Dat)) (A:Option Addr) (n c:Nat) (hv:au G (.sl 2 rows) (.slice A n c)) (hz:rows.length<=4294967296) :
  Calls prog 168 #[.slice A n c] w0 (bK w0 G fun v G'=>au G' (.sl 2 rows) v):=by
 obtain ⟨hn,hc1,hc2,hnil,hx⟩:=hv.cells;refine eN [(0,_)] func168 rfl ntmps168 rfl rfl hG ?_;intro a H;refine kP H (SR fun _ K1=>aj K1 rfl (SQ fun _ K2=>SR fun _ K3=>Rm rfl ?_));clear H K1;intro a H;refine CW gT H wn rfl rfl ?_;clear H;intro a H;refine K3 _ _ ?_;clear K3;refine jS H rfl ?_ ?_
 ·intro h4
  exact kP H (SR fun _ K4=>aj K4 rfl (LR results168 rfl fun H=>H.rt (by rw [hnil (by simpa using h4)];exact au.qV rfl (by simp [maxLen]))))
 intro h4
 try have p4:=dF h4
 refine iB ?_;refine K2 _ _ ?_;clear K2;refine bD (fun _ K5=>?_)
 have hA:¬ A=none:=by intro e;rw [e] at h4;cases h4
 refine nH ?_;refine Aa gT iq H wn rfl ?_;clear H;intro b5 a w hb5 H;refine kH H (Rm rfl ?_);clear H;intro a H
 by_cases hr0:rows=[]
 ·have hn0:n=0:=by rw [hn,hr0];rfl
  subst hn0;refine Bt gT iq H wn rfl rfl (eu _) rfl ?_;clear H;intro a H;exact kH H (aX K5 rfl (LR results168 rfl fun H=>H.rt (by rw [hr0];exact au.qV rfl (by simp [maxLen]))))
 obtain ⟨b,o,xs,rfl,hxl,hxc,hx1,fG⟩:=hx hr0;refine oh (Li:=[]) (Lo:=[_]) (news:=xs) gT iq rfl rfl H wn rfl rfl cu.empty hxl (fun j u hj=>H.hp.aH (hxc j u hj)) hx1 (by omega) (by omega) rfl ?_;clear H;intro v7 Lo a w hrow H;obtain ⟨G',hm,hrep,H⟩:=H.qp hrow (rows:=rows) (by omega) (by simpa using fG)
 try clear hG
 obtain ⟨G2,hG2⟩:∃ g,g=G':=⟨_,rfl⟩;subst hG2;exact kH H (aX K5 rfl (LR results168 rfl fun H=>H.rt hrep))
theorem ano (G:GH) (w0:World) (hG:Hold G w0) (rows:List (List Dat)) (A:Option Addr) (n c:Nat) (hv:au G (.sl 2 rows) (.slice A n c)) (hz:rows.length<=4294967296) :
  Calls prog 169 #[.slice A n c] w0 (bK w0 G fun v G'=>au G' (.sl 2 rows) v):=by
 obtain ⟨hn,hc1,hc2,hnil,hx⟩:=hv.cells;refine eN [(0,_)] func169 rfl ntmps169 rfl rfl hG ?_;intro a H;refine kP H (SR fun _ K1=>aj K1 rfl (SQ fun _ K2=>SR fun _ K3=>Rm rfl ?_));clear H K1;intro a H;refine CW oz H wn rfl rfl ?_;clear H;intro a H;refine K3 _ _ ?_;clear K3;refine jS H rfl ?_ ?_
 ·intro h4
  exact kP H (SR fun _ K4=>aj K4 rfl (LR results169 rfl fun H=>H.rt (by rw [hnil (by simpa using h4)];exact au.qV rfl (by simp [maxLen]))))
 intro h4
 try have p4:=dF h4
 refine iB ?_;refine K2 _ _ ?_;clear K2;refine bD (fun _ K5=>?_)
 have hA:¬ A=none:=by intro e;rw [e] at h4;cases h4
 refine nH ?_;refine Aa oz om H wn rfl ?_;clear H;intro b5 a w hb5 H;refine kH H (Rm rfl ?_);clear H;intro a H
 by_cases hr0:rows=[]
 ·have hn0:n=0:=by rw [hn,hr0];rfl
  subst hn0;refine Bt oz om H wn rfl rfl (eu _) rfl ?_;clear H;intro a H;exact kH H (aX K5 rfl (LR results169 rfl fun H=>H.rt (by rw [hr0];exact au.qV rfl (by simp [maxLen]))))
 obtain ⟨b,o,xs,rfl,hxl,hxc,hx1,fG⟩:=hx hr0;refine oh (Li:=[]) (Lo:=[_]) (news:=xs) oz om rfl rfl H wn rfl rfl cu.empty hxl (fun j u hj=>H.hp.aH (hxc j u hj)) hx1 (by omega) (by omega) rfl ?_;clear H;intro v7 Lo a w hrow H;obtain ⟨G',hm,hrep,H⟩:=H.qp hrow (rows:=rows) (by omega) (by simpa using fG)
 try clear hG
 obtain ⟨G2,hG2⟩:∃ g,g=G':=⟨_,rfl⟩;subst hG2;exact kH H (aX K5 rfl (LR results169 rfl fun H=>H.rt hrep))
theorem anu (G:GH) (w0:World) (hG:Hold G w0) (rows:List (List Dat)) (A:Option Addr) (n c:Nat) (hv:au G (.sl 4 rows) (.slice A n c)) (hz:rows.length<=4294967296) :
  Calls prog 170 #[.slice A n c] w0 (bK w0 G fun v G'=>au G' (.sl 4 rows) v):=by
 obtain ⟨hn,hc1,hc2,hnil,hx⟩:=hv.cells;refine eN [(0,_)] func170 rfl ntmps170 rfl rfl hG ?_;intro a H;refine kP H (SR fun _ K1=>aj K1 rfl (SQ fun _ K2=>SR fun _ K3=>Rm rfl ?_));clear H K1;intro a H;refine CW lK H wn rfl rfl ?_;clear H;intro a H;refine K3 _ _ ?_;clear K3;refine jS H rfl ?_ ?_
 ·intro h4
  exact kP H (SR fun _ K4=>aj K4 rfl (LR results170 rfl fun H=>H.rt (by rw [hnil (by simpa using h4)];exact au.qV rfl (by simp [maxLen]))))
 intro h4
 try have p4:=dF h4
 refine iB ?_;refine K2 _ _ ?_;clear K2;refine bD (fun _ K5=>?_)
 have hA:¬ A=none:=by intro e;rw [e] at h4;cases h4
 refine nH ?_;refine Aa lK jN H wn rfl ?_;clear H;intro b5 a w hb5 H;refine kH H (Rm rfl ?_);clear H;intro a H
 by_cases hr0:rows=[]
 ·have hn0:n=0:=by rw [hn,hr0];rfl
  subst hn0;refine Bt lK jN H wn rfl rfl (eu _) rfl ?_;clear H;intro a H;exact kH H (aX K5 rfl (LR results170 rfl fun H=>H.rt (by rw [hr0];exact au.qV rfl (by simp [maxLen]))))
 obtain ⟨b,o,xs,rfl,hxl,hxc,hx1,fG⟩:=hx hr0;refine oh (Li:=[]) (Lo:=[_]) (news:=xs) lK jN rfl rfl H wn rfl rfl cu.empty hxl (fun j u hj=>H.hp.aH (hxc j u hj)) hx1 (by omega) (by omega) rfl ?_;clear H;intro v7 Lo a w hrow H;obtain ⟨G',hm,hrep,H⟩:=H.qp hrow (rows:=rows) (by omega) (by simpa using fG)
 try clear hG
 obtain ⟨G2,hG2⟩:∃ g,g=G':=⟨_,rfl⟩;subst hG2;exact kH H (aX K5 rfl (LR results170 rfl fun H=>H.rt hrep))
theorem alH {p:Prop} (h:p:=by
 exact kH H (Rf qo rfl fun _ H=>fin H iJ rfl)):p:=h
theorem UQ {p:Prop} (h:p:=by
 refine fP [] rfl trivial (by kernel_rfl) sZ rfl rfl ?_;intro bH a w G1 hG HT H fin;exact alH):p:=h
theorem Uo {p:Prop} (h:p:=by
 clear H;rintro v10 Ev a w yU wK H;exact fin H wK (yU)):p:=h
theorem PG (G:GH) (w0:World) (hG:Hold G w0) (h:dJ) (pA dA yA:Option Addr) (pn pc dn dc yn yc:Nat) (hv:jy G h (.slice pA pn pc) (.slice dA dn dc) (.slice yA yn yc)) (hz:mK h<=4294967296) :
  Calls prog 108 #[.agg #[.slice pA pn pc,vi h.marks.ins,vi h.marks.move,.slice dA dn dc,.slice yA yn yc]] w0 (bK w0 G fun v G'=>∃ p d l,v=.agg #[p,vi h.marks.ins,vi h.marks.move,d,l]∧jy G' h p d l):=by
 have he:=FM h;have h1:=pq (h.props.map aL.dat);have h2:=pq (h.marks.bE.map gF.dat);have h3:=pq (h.marks.layers.map bS.dat);refine eN [(0,_)] func108 rfl ntmps108 rfl rfl hG ?_;intro a H;refine cO (fun _ K1=>?_);refine dW (cs:=[_,_,_,_,_]) H wn rfl rfl rfl ?_;clear H;intro b1 a w hb1 H;refine dO fH H wn rfl ?_;clear H;intro b2 a w hb2 H;refine K1 _ _ ?_;clear K1;refine kP H (SR fun _ K2=>bq yL vk 1 rfl rfl ?_);clear H;intro a H;refine s_call PX H wn rfl (Va _ _ H.ro _ _ _ _ hv.props (by omega)) rfl ?_;clear H;rintro v5 G5 a w vT E5 H;obtain ⟨A5,n5,c5,rfl⟩:=vT.form;refine kH H (Rf yL rfl ?_);clear H;intro a H;refine bC vk 1 (vs:=[_]) H wn rfl ?_;clear H;intro w H;refine K2 _ _ ?_;clear K2;refine bD (fun _ K3=>?_);obtain ⟨hvp,hvd,hvy⟩:=hv.mono E5;clear hv
 have sZ:BS (fun (bT:Nat) (v:ah) (G:GH)=>match bT with|0=>v=(aJ b1 1)|1=>v=(aJ b1 3)|2=>v=.slice dA dn dc|3=>au G (.sl 2 (h.marks.bE.map gF.dat)) v|4=>v=(aJ b1 1)|5=>v=(aJ b1 4)|6=>v=.slice yA yn yc|7=>au G (.sl 4 (h.marks.layers.map bS.dat)) v|8=>v=(aJ b1 1)|9=>v=(aJ b1 3)|_=>True):=by intro bT v G G' hm h;(iterate 14 (rcases bT with _|bT;(first|exact h|exact au.mono hm h)));exact trivial
 refine Au (hmx) [[],[0],[0,1],[0,1,2],[],[4],[4,5],ra 0 7,ra 0 7,(ra 0 7++[8]),ra 0 10,ra 0 11,ra 0 12,ra 0 13] (ra 10 4) (by kernel_rfl) (by kernel_rfl) _ sZ H ?_ ?_
 ·clear H;refine ay ?_ ?_ ?_ ?_ (ay ?_ ?_ ?_ ?_ (ay ?_ ?_ (bR rfl) (bR rfl) (bF (bR rfl) (bF (bR rfl) cK))))
  ·exact UQ
  ·refine fP [(0,7,_)] rfl ⟨fun _ _ h=>h,aB⟩ (by kernel_rfl) sZ rfl rfl ?_;intro bH a w G1 hG HT H fin;exact kH H (Rf tY rfl fun _ H=>fin H iJ rfl)
  ·refine fP [(1,8,_)] rfl ⟨fun _ _ h=>h,aB⟩ (by kernel_rfl) sZ rfl rfl ?_;intro bH a w G1 hG HT H fin;exact kH H (Ro uw 1 rfl fun _ H=>fin H iJ rfl)
  ·refine fP [(2,9,_)] rfl ⟨fun _ _ h=>h,aB⟩ (by kernel_rfl) sZ rfl rfl ?_;intro bH a w G1 hG HT H fin;refine s_call apb H wn rfl (ano _ _ H.ro _ _ _ _ (hvd.mono hG) (by omega)) rfl ?_;exact Uo
  ·exact UQ
  ·refine fP [(4,11,_)] rfl ⟨fun _ _ h=>h,aB⟩ (by kernel_rfl) sZ rfl rfl ?_;intro bH a w G1 hG HT H fin;exact kH H (Rf Az rfl fun _ H=>fin H iJ rfl)
  ·refine fP [(5,12,_)] rfl ⟨fun _ _ h=>h,aB⟩ (by kernel_rfl) sZ rfl rfl ?_;intro bH a w G1 hG HT H fin;exact kH H (Ro BD 1 rfl fun _ H=>fin H iJ rfl)
  ·refine fP [(6,13,_)] rfl ⟨fun _ _ h=>h,aB⟩ (by kernel_rfl) sZ rfl rfl ?_;intro bH a w G1 hG HT H fin;refine s_call apc H wn rfl (anu _ _ H.ro _ _ _ _ (hvy.mono hG) (by omega)) rfl ?_;clear H;rintro v14 Ew a w uV Hr H;exact fin H Hr (uV)
  ·exact UQ
  refine fP [(8,15,_)] rfl ⟨fun _ _ h=>h,aB⟩ (by kernel_rfl) sZ rfl rfl ?_;intro bH a w G1 hG HT H fin;exact kH H (Rf tY rfl fun _ H=>fin H iJ rfl)
 clear H;intro a w G DT H hv;obtain ⟨u10,Nz,yU⟩:=hv 3 10 (by decide) rfl;(try dsimp only at yU);obtain ⟨ZG,n10,c10,rfl⟩:=yU.form;have H:=H.iI Nz;obtain ⟨u14,NA,uV⟩:=hv 7 14 (by decide) rfl;(try dsimp only at uV);obtain ⟨Tg,n14,c14,rfl⟩:=uV.form;have H:=H.iI NA;have H:=H.aM (hv 9 16 rfl rfl) rfl;clear hv;refine bC uw 1 (vs:=[_]) H wn rfl ?_;clear H;intro w H;refine kH H (Rf qo rfl (Rf Az rfl ?_));clear H;intro a H;refine bC BD 1 (vs:=[_]) H wn rfl ?_;clear H;intro w H;refine aD ⟨rfl,?_⟩;refine K3 _ _ ?_;clear K3;refine cO (fun _ K4=>?_);refine bP fH (cs:=[_,_,_,_,_]) H wn rfl rfl (H.hp.dx 1 rfl rfl) rfl ?_;clear H;intro a H;refine bC fH 0 (vs:=[_,_,_,_,_]) H wn rfl ?_;clear H;intro w H;refine K4 _ _ ?_;clear K4;refine eO ?_;refine (leave1 H results108 (.cons (ny fH (cs:=[_,_,_,_,_]) H rfl rfl (H.hp.dx 0 rfl rfl)) .nil) ?_).1;exact H.rt ⟨_,_,_,rfl,vT.mono DT,yU,uV⟩
theorem wT {G:GH} {w:World} (h:Hold G w):gH G [] w:=⟨h,fun _ h=>(by cases h),fun _ h=>(by cases h),List.Pairwise.nil⟩
theorem aaF {p:Prop} (h:p:=by
 exact ⟨none,0,by simp,by simp,by simp [maxLen],fun h=>absurd rfl h⟩):p:=h
theorem JI {P:Program} {f:FuncId} {args:Array ah} {w0:World} {G:GH} {e sz n:Nat} {rows:List (List Dat)} (hG:Hold G w0) (h:Calls P f args w0 (fU w0 G [] fun u G' L'=>∃ xs,cu e sz u n xs L'∧bZ G' sz rows xs)) (hl:rows.length=n) :
  Calls P f args w0 (bK w0 G fun u G'=>au G' (.sl sz rows) u):=by
 intro cs;obtain ⟨e1,w',fr,⟨v,G',L',rfl,hch,xs,hrow,fG⟩,h2,h3,h4⟩:=h cs;have hp0:Hp w0 (fun k=>k < w0.heap.size) G G ([]++[]) w0:=⟨rfl,rfl,rfl,eu _,fun _ h=>h,fun _ _=>rfl,hG,fun _ _ h=>h,fun _ _ h=>.inl h,fun _ h=>(by cases h),fun _ h=>(by cases h),fun _ h=>(by cases h),List.Pairwise.nil⟩;have hp1:=hp0.change hch;rw [jR] at hp1;refine ⟨_,w',fr,?_,h2,h3,h4⟩
 rcases hrow.2 with ⟨rfl,h5,rfl⟩|⟨b,cap,cur,rfl,rfl,h5,h6,h7,h8⟩
 ·refine hp1.ret ?_;have:rows=[]:=List.eq_nil_of_length_eq_zero (by omega);subst this
  simp only [au]
  exact aaF
 have hn:=hp1.vg (b,.cells cur e (0,0)) (by simp);exact (hp1.giveUp 0 rfl).ret (au.vV (GH.Jl G' b _) hl h5 h6 h8 (fG.mono fun k o h=>GH.Jk G' hn k o h))
def Df (fv:ah) (w0:World) (G:GH) (d d':List Dat):Prop:=∀ (G1:GH) (w1:World) (cs:List ah),(∀ b o,G b=some o->G1 b=some o)->Hold G1 w1->aY G1 d cs ->
 tL prog fv [.agg cs.toArray] w1 (bK w1 G1 fun u G'=>∃ cs',u=.agg cs'.toArray∧aY G' d' cs')
abbrev I7 (fv:ah) (w0:World) (G:GH) (d:List Dat):Prop:=Df fv w0 G d d
theorem Uc {p:Prop} (h:p:=by
 exact ⟨by omega,cu.nil,by simpa using bZ.nil,fun _ _ h=>h⟩):p:=h
theorem alP {p:Prop} (h:p:=by
 exact (fG.mono sV).snoc (by simpa using fE) (by rw [zS];rfl)):p:=h
theorem Ui {p:Prop} (h:p:=by
 exact H.hp.fQ ⟨_,hrw,by rw [nU (by simp)] at fG;exact fG⟩):p:=h
theorem UZ {p:Prop} (h:p:=by
 clear H;intro v19 TG a w Fg H;refine kH H (aX K7 rfl (SC (Rd rfl (Rm rfl ?_))));clear H K7;intro a H;refine aD ?_;refine dG ((k+1,v19,xs++Dw,TG,BN)) (by exact (H.eD (Pl:=[_,_]) (dN:=[]) [] (by decide) rfl).sub ⟨rfl,rfl,rfl,rfl,rfl,aB⟩) ?_
 (try dsimp only);refine ⟨by omega,Fg,?_,fun b o h=>sV b o (hgm b o h)⟩;rw [kg (by simpa using hk2)];exact alP):p:=h
theorem aeo (φ:ak->ak) (G:GH) (w0:World) (hO:gH G [] w0) (l:List ak) (v fv:ah) (hv:au G (.sl 11 (l.map ak.dat)) v) (hz:l.length<=4294967296) (hf:∀ x∈l,Df fv w0 G x.dat (φ x).dat) :
  Calls prog 140 #[v,fv] w0 (fU w0 G [] fun u G' L'=>∃ xs,cu 68 11 u l.length xs L'∧bZ G' 11 (l.map fun x=>(φ x).dat) xs):=by
 obtain ⟨A,c,rfl,hc1,hc2,hg⟩:=hv.slice
 have hml:4294967297<=maxLen:=by decide
 rw [bQ] at *;refine jc (N:=22) (T:=[(0,_),(1,_)]) func140 rfl ntmps140 rfl rfl hO ?_;intro a H;refine kP H (SR fun _ K1=>aj K1 rfl (SR fun _ K2=>aj K2 rfl (SQ fun _ K3=>SR fun _ K4=>Rm rfl (Rl jq rfl (Rm rfl (Kz K4 (SB ?_)))))));clear H K1 K2 K4;intro a H;skip;refine eX (ι:=Nat × ah × List ah × OL × GH) (Tc:=[(1,_),(8,_),(9,_)]) (Lc:=[]) (fun gh=>[(5,gh.2.1),(10,vi gh.1)]) (fun gh=>[]++gh.2.2.2.1) (fun gh=>gh.2.2.2.2) (fun gh=>gh.1<=l.length∧cu 68 11 gh.2.1 gh.1 gh.2.2.1 gh.2.2.2.1∧bZ gh.2.2.2.2 11 ((l.map fun x=>(φ x).dat).take gh.1) gh.2.2.1∧(∀ b o,G b=some o->gh.2.2.2.2 b=some o)) (fun gh=>l.length - gh.1) ((0,.slice none 0 0,[],[],G)) (by exact H.sub ⟨rfl,rfl,rfl,rfl,rfl,aB⟩) ?_ ?_
 ·exact Uc
 clear H;rintro ⟨k,v,xs,Lo,g⟩ a w hI H;dsimp only at hI H;obtain ⟨hk,hrw,fG,hgm⟩:=hI;dsimp only [lca,bJ] at H;refine kP H (SR fun _ K5=>Rc rfl (Kz K5 (SQ fun _ K6=>Cd rfl ?_ ?_))) <;> clear H K5
 ·intro h11 a H
  try have sj:=dT h11
  have hk2:k < l.length:=by omega
  obtain ⟨b,o,cs,rfl,hcl,hrow,hrep⟩:=hg k l[k].dat (by simp [hk2]);obtain ⟨pA,pn,pc,dA,dn,dc,yA,yn,yc,fA,fn,fc,rA,rn,rc,rfl,-⟩:=hrep.item;replace hrow:=fun j u hj=>aF hgm (hrow j u hj);refine kP H (Kc K6 (SQ fun _ K7=>SB (SR fun _ K8=>Ri jq gq rfl rfl ?_)));clear H K6;intro a H;refine bP gq (cs:=[_,_,_,_,_,_,_,_,_,_,_]) H wn rfl rfl (fun j v hj=>H.hp.aH (hrow j v hj)) rfl ?_;clear H;intro a H;refine dO gq H wn rfl ?_;clear H;intro b7 a w AZ H;refine bC gq 0 (vs:=[_,_,_,_,_,_,_,_,_,_,_]) H wn rfl ?_;clear H;intro w H;refine K8 _ _ ?_;clear K8;refine kP H (SC (Rm rfl (Rm rfl ?_)));clear H;intro a H;refine bP gq (cs:=[_,_,_,_,_,_,_,_,_,_,_]) H wn rfl rfl (H.hp.dx 0 rfl rfl) rfl ?_;clear H;intro a H;refine kX H wn rfl rfl (hf _ (jB hk2) _ _ _ hgm H.ro (hrep.mono hgm)) rfl ?_;clear H;rintro v17 BN a w ⟨Dw,rfl,fE⟩ sV H;obtain ⟨cs,hcs⟩:∃ cs,cs=Dw:=⟨_,rfl⟩;obtain ⟨pA,pn,pc,dA,dn,dc,yA,yn,yc,fA,fn,fc,rA,rn,rc,zS,-⟩:=fE.item;rw [zS] at H;refine iT jq gq [_,_,_,_,_,_,_,_,_,_,_] [_,_,_,_,_,_,_,_,_,_,_] H wn rfl rfl rfl rfl rfl (by intro i q h;match i,h with|0,h=>exact h|n+1,h=>simp at h) rfl rfl ?_;clear H;intro b18 a w Qp H;refine oh (Li:=[_,_]) (Lo:=Lo) (news:=Dw) jq gq rfl rfl H wn rfl rfl hrw (by rw [zS];rfl) (by rw [zS];exact H.hp.dx 0 rfl rfl) fE.one (by omega) (by omega) rfl ?_;exact UZ
 intro h11 a H
 try have sj:=dF h11
 refine dP ?_;refine K3 _ _ ?_;clear K3;refine kP H (SR fun _ K9=>Rm rfl (aj K9 rfl ?_));clear H K9;intro a H;refine lr H results140 rfl ?_
 obtain rfl:k=l.length:=by omega
 exact Ui
theorem aoj (φ:ak->ak) (G:GH) (w0:World) (hG:Hold G w0) (l:List ak) (v fv:ah) (hv:au G (.sl 11 (l.map ak.dat)) v) (hz:l.length<=4294967296) (hf:∀ x∈l,Df fv w0 G x.dat (φ x).dat) :
  Calls prog 140 #[v,fv] w0 (bK w0 G fun u G'=>au G' (.sl 11 (l.map fun x=>(φ x).dat)) u):=JI hG (aeo φ G w0 (wT hG) l v fv hv hz hf) (by simp)
theorem aof (G:GH) (w0:World) (hG:Hold G w0) (l:List ak) (v fv:ah) (hv:au G (.sl 11 (l.map ak.dat)) v) (hz:l.length<=4294967296) (hf:∀ x∈l,I7 fv w0 G x.dat) :
  Calls prog 140 #[v,fv] w0 (bK w0 G fun u G'=>au G' (.sl 11 (l.map ak.dat)) u):=aoj (fun x=>x) G w0 hG l v fv hv hz hf
theorem aoh (φ:aS->aS) (G:GH) (w0:World) (hO:gH G [] w0) (l:List aS) (v fv:ah) (hv:au G (.sl 6 (l.map aS.dat)) v) (hz:l.length<=4294967296) (hf:∀ x∈l,Df fv w0 G x.dat (φ x).dat) :
  Calls prog 110 #[v,fv] w0 (fU w0 G [] fun u G' L'=>∃ xs,cu 74 6 u l.length xs L'∧bZ G' 6 (l.map fun x=>(φ x).dat) xs):=by
 obtain ⟨A,c,rfl,hc1,hc2,hg⟩:=hv.slice
 have hml:4294967297<=maxLen:=by decide
 rw [bQ] at *;refine jc (N:=22) (T:=[(0,_),(1,_)]) func110 rfl ntmps110 rfl rfl hO ?_;intro a H;refine kP H (SR fun _ K1=>aj K1 rfl (SR fun _ K2=>aj K2 rfl (SQ fun _ K3=>SR fun _ K4=>Rm rfl (Rl nP rfl (Rm rfl (Kz K4 (SB ?_)))))));clear H K1 K2 K4;intro a H;skip;refine eX (ι:=Nat × ah × List ah × OL × GH) (Tc:=[(1,_),(8,_),(9,_)]) (Lc:=[]) (fun gh=>[(5,gh.2.1),(10,vi gh.1)]) (fun gh=>[]++gh.2.2.2.1) (fun gh=>gh.2.2.2.2) (fun gh=>gh.1<=l.length∧cu 74 6 gh.2.1 gh.1 gh.2.2.1 gh.2.2.2.1∧bZ gh.2.2.2.2 6 ((l.map fun x=>(φ x).dat).take gh.1) gh.2.2.1∧(∀ b o,G b=some o->gh.2.2.2.2 b=some o)) (fun gh=>l.length - gh.1) ((0,.slice none 0 0,[],[],G)) (by exact H.sub ⟨rfl,rfl,rfl,rfl,rfl,aB⟩) ?_ ?_
 ·exact Uc
 clear H;rintro ⟨k,v,xs,Lo,g⟩ a w hI H;dsimp only at hI H;obtain ⟨hk,hrw,fG,hgm⟩:=hI;dsimp only [lca,bJ] at H;refine kP H (SR fun _ K5=>Rc rfl (Kz K5 (SQ fun _ K6=>Cd rfl ?_ ?_))) <;> clear H K5
 ·intro h11 a H
  try have sj:=dT h11
  have hk2:k < l.length:=by omega
  obtain ⟨b,o,cs,rfl,hcl,hrow,hrep⟩:=hg k l[k].dat (by simp [hk2]);obtain ⟨pA,pn,pc,dA,dn,dc,yA,yn,yc,fA,fn,fc,rfl,-⟩:=hrep.row;replace hrow:=fun j u hj=>aF hgm (hrow j u hj);refine kP H (Kc K6 (SQ fun _ K7=>SB (SR fun _ K8=>Ri nP jV rfl rfl ?_)));clear H K6;intro a H;refine bP jV (cs:=[_,_,_,_,_,_]) H wn rfl rfl (fun j v hj=>H.hp.aH (hrow j v hj)) rfl ?_;clear H;intro a H;refine dO jV H wn rfl ?_;clear H;intro b7 a w AZ H;refine bC jV 0 (vs:=[_,_,_,_,_,_]) H wn rfl ?_;clear H;intro w H;refine K8 _ _ ?_;clear K8;refine kP H (SC (Rm rfl (Rm rfl ?_)));clear H;intro a H;refine bP jV (cs:=[_,_,_,_,_,_]) H wn rfl rfl (H.hp.dx 0 rfl rfl) rfl ?_;clear H;intro a H;refine kX H wn rfl rfl (hf _ (jB hk2) _ _ _ hgm H.ro (hrep.mono hgm)) rfl ?_;clear H;rintro v17 BN a w ⟨Dw,rfl,fE⟩ sV H;obtain ⟨cs,hcs⟩:∃ cs,cs=Dw:=⟨_,rfl⟩;obtain ⟨pA,pn,pc,dA,dn,dc,yA,yn,yc,fA,fn,fc,zS,-⟩:=fE.row;rw [zS] at H;refine iT nP jV [_,_,_,_,_,_] [_,_,_,_,_,_] H wn rfl rfl rfl rfl rfl (by intro i q h;match i,h with|0,h=>exact h|n+1,h=>simp at h) rfl rfl ?_;clear H;intro b18 a w Qp H;refine oh (Li:=[_,_]) (Lo:=Lo) (news:=Dw) nP jV rfl rfl H wn rfl rfl hrw (by rw [zS];rfl) (by rw [zS];exact H.hp.dx 0 rfl rfl) fE.one (by omega) (by omega) rfl ?_;exact UZ
 intro h11 a H
 try have sj:=dF h11
 refine dP ?_;refine K3 _ _ ?_;clear K3;refine kP H (SR fun _ K9=>Rm rfl (aj K9 rfl ?_));clear H K9;intro a H;refine lr H results110 rfl ?_
 obtain rfl:k=l.length:=by omega
 exact Ui
theorem aer (φ:aS->aS) (G:GH) (w0:World) (hG:Hold G w0) (l:List aS) (v fv:ah) (hv:au G (.sl 6 (l.map aS.dat)) v) (hz:l.length<=4294967296) (hf:∀ x∈l,Df fv w0 G x.dat (φ x).dat) :
  Calls prog 110 #[v,fv] w0 (bK w0 G fun u G'=>au G' (.sl 6 (l.map fun x=>(φ x).dat)) u):=JI hG (aoh φ G w0 (wT hG) l v fv hv hz hf) (by simp)
theorem aoi (G:GH) (w0:World) (hG:Hold G w0) (l:List aS) (v fv:ah) (hv:au G (.sl 6 (l.map aS.dat)) v) (hz:l.length<=4294967296) (hf:∀ x∈l,I7 fv w0 G x.dat) :
  Calls prog 110 #[v,fv] w0 (bK w0 G fun u G'=>au G' (.sl 6 (l.map aS.dat)) u):=aer (fun x=>x) G w0 hG l v fv hv hz hf
theorem aog (φ:aV->aV) (G:GH) (w0:World) (hO:gH G [] w0) (l:List aV) (v fv:ah) (hv:au G (.sl 7 (l.map aV.dat)) v) (hz:l.length<=4294967296) (hf:∀ x∈l,Df fv w0 G x.dat (φ x).dat) :
  Calls prog 172 #[v,fv] w0 (fU w0 G [] fun u G' L'=>∃ xs,cu 76 7 u l.length xs L'∧bZ G' 7 (l.map fun x=>(φ x).dat) xs):=by
 obtain ⟨A,c,rfl,hc1,hc2,hg⟩:=hv.slice
 have hml:4294967297<=maxLen:=by decide
 rw [bQ] at *;refine jc (N:=22) (T:=[(0,_),(1,_)]) func172 rfl ntmps172 rfl rfl hO ?_;intro a H;refine kP H (SR fun _ K1=>aj K1 rfl (SR fun _ K2=>aj K2 rfl (SQ fun _ K3=>SR fun _ K4=>Rm rfl (Rl qH rfl (Rm rfl (Kz K4 (SB ?_)))))));clear H K1 K2 K4;intro a H;skip;refine eX (ι:=Nat × ah × List ah × OL × GH) (Tc:=[(1,_),(8,_),(9,_)]) (Lc:=[]) (fun gh=>[(5,gh.2.1),(10,vi gh.1)]) (fun gh=>[]++gh.2.2.2.1) (fun gh=>gh.2.2.2.2) (fun gh=>gh.1<=l.length∧cu 76 7 gh.2.1 gh.1 gh.2.2.1 gh.2.2.2.1∧bZ gh.2.2.2.2 7 ((l.map fun x=>(φ x).dat).take gh.1) gh.2.2.1∧(∀ b o,G b=some o->gh.2.2.2.2 b=some o)) (fun gh=>l.length - gh.1) ((0,.slice none 0 0,[],[],G)) (by exact H.sub ⟨rfl,rfl,rfl,rfl,rfl,aB⟩) ?_ ?_
 ·exact Uc
 clear H;rintro ⟨k,v,xs,Lo,g⟩ a w hI H;dsimp only at hI H;obtain ⟨hk,hrw,fG,hgm⟩:=hI;dsimp only [lca,bJ] at H;refine kP H (SR fun _ K5=>Rc rfl (Kz K5 (SQ fun _ K6=>Cd rfl ?_ ?_))) <;> clear H K5
 ·intro h11 a H
  try have sj:=dT h11
  have hk2:k < l.length:=by omega
  obtain ⟨b,o,cs,rfl,hcl,hrow,hrep⟩:=hg k l[k].dat (by simp [hk2]);obtain ⟨pA,pn,pc,dA,dn,dc,yA,yn,yc,fA,fn,fc,rfl,-⟩:=hrep.cell;replace hrow:=fun j u hj=>aF hgm (hrow j u hj);refine kP H (Kc K6 (SQ fun _ K7=>SB (SR fun _ K8=>Ri qH lg rfl rfl ?_)));clear H K6;intro a H;refine bP lg (cs:=[_,_,_,_,_,_,_]) H wn rfl rfl (fun j v hj=>H.hp.aH (hrow j v hj)) rfl ?_;clear H;intro a H;refine dO lg H wn rfl ?_;clear H;intro b7 a w AZ H;refine bC lg 0 (vs:=[_,_,_,_,_,_,_]) H wn rfl ?_;clear H;intro w H;refine K8 _ _ ?_;clear K8;refine kP H (SC (Rm rfl (Rm rfl ?_)));clear H;intro a H;refine bP lg (cs:=[_,_,_,_,_,_,_]) H wn rfl rfl (H.hp.dx 0 rfl rfl) rfl ?_;clear H;intro a H;refine kX H wn rfl rfl (hf _ (jB hk2) _ _ _ hgm H.ro (hrep.mono hgm)) rfl ?_;clear H;rintro v17 BN a w ⟨Dw,rfl,fE⟩ sV H;obtain ⟨cs,hcs⟩:∃ cs,cs=Dw:=⟨_,rfl⟩;obtain ⟨pA,pn,pc,dA,dn,dc,yA,yn,yc,fA,fn,fc,zS,-⟩:=fE.cell;rw [zS] at H;refine iT qH lg [_,_,_,_,_,_,_] [_,_,_,_,_,_,_] H wn rfl rfl rfl rfl rfl (by intro i q h;match i,h with|0,h=>exact h|n+1,h=>simp at h) rfl rfl ?_;clear H;intro b18 a w Qp H;refine oh (Li:=[_,_]) (Lo:=Lo) (news:=Dw) qH lg rfl rfl H wn rfl rfl hrw (by rw [zS];rfl) (by rw [zS];exact H.hp.dx 0 rfl rfl) fE.one (by omega) (by omega) rfl ?_;exact UZ
 intro h11 a H
 try have sj:=dF h11
 refine dP ?_;refine K3 _ _ ?_;clear K3;refine kP H (SR fun _ K9=>Rm rfl (aj K9 rfl ?_));clear H K9;intro a H;refine lr H results172 rfl ?_
 obtain rfl:k=l.length:=by omega
 exact Ui
theorem aep (φ:aV->aV) (G:GH) (w0:World) (hG:Hold G w0) (l:List aV) (v fv:ah) (hv:au G (.sl 7 (l.map aV.dat)) v) (hz:l.length<=4294967296) (hf:∀ x∈l,Df fv w0 G x.dat (φ x).dat) :
  Calls prog 172 #[v,fv] w0 (bK w0 G fun u G'=>au G' (.sl 7 (l.map fun x=>(φ x).dat)) u):=JI hG (aog φ G w0 (wT hG) l v fv hv hz hf) (by simp)
theorem aoe (G:GH) (w0:World) (hG:Hold G w0) (l:List aV) (v fv:ah) (hv:au G (.sl 7 (l.map aV.dat)) v) (hz:l.length<=4294967296) (hf:∀ x∈l,I7 fv w0 G x.dat) :
  Calls prog 172 #[v,fv] w0 (bK w0 G fun u G'=>au G' (.sl 7 (l.map aV.dat)) u):=aep (fun x=>x) G w0 hG l v fv hv hz hf
def FR (n:Nat):Prop:=∀ (G:GH) (w0:World),Hold G w0->∀ (l:List ak) (v:ah),au G (.sl 11 (l.map ak.dat)) v->bO l < n ->
 Calls prog 80 #[v] w0 (bK w0 G fun u G'=>au G' (.sl 11 (l.map ak.dat)) u)
theorem Jy {p:Prop} (h:p:=by
 exact fin H iJ rfl):p:=h
theorem aaX {p:Prop} (h:p:=by
 exact kH H (Ro kC 1 rfl fun _ H=>fin H iJ rfl)):p:=h
theorem jk {p:Prop} (h:p:=by
 clear H;intro a H;exact Jy):p:=h
theorem acp {p:Prop} (h:p:=by
 refine fP [(3,6,_)] rfl ⟨fun _ _ h=>h,aB⟩ (by kernel_rfl) iW rfl rfl ?_;intro bH a w G1 hG HT H fin;refine s_call PW H wn rfl (PG _ _ H.ro x.head _ _ _ _ _ _ _ _ _ (hh.mono hG) (by omega)) rfl ?_;clear H;rintro v7 G7 a w sW WG H;exact fin H WG (sW)):p:=h
theorem acM {p:Prop} (h:p:=by
 refine fP [(0,3,_)] rfl ⟨fun _ _ h=>h,aB⟩ (by kernel_rfl) iW rfl rfl ?_;intro bH a w G1 hG HT H fin;exact kH H (Ro aC 1 rfl fun _ H=>fin H iJ rfl)):p:=h
theorem acP {p:Prop} (h:p:=by
 refine fP [] rfl trivial (by kernel_rfl) iW rfl rfl ?_;intro bH a w G1 hG HT H fin;exact kH H (Rf MV rfl fun _ H=>fin H iJ rfl)):p:=h
theorem acQ {p:Prop} (h:p:=by
 refine fP [] rfl trivial (by kernel_rfl) iW rfl rfl ?_;intro bH a w G1 hG HT H fin;exact kH H (Rf Qe rfl fun _ H=>fin H iJ rfl)):p:=h
theorem acR {p:Prop} (h:p:=by
 refine fP [] rfl trivial (by kernel_rfl) iW rfl rfl ?_;intro bH a w G1 hG HT H fin;exact kH H (Rf GZ rfl fun _ H=>fin H iJ rfl)):p:=h
theorem acV {p:Prop} (h:p:=by
 refine fP [(5,8,_)] rfl ⟨fun _ _ h=>h,aB⟩ (by kernel_rfl) iW rfl rfl ?_;intro bH a w G1 hG HT H fin;exact aaX):p:=h
theorem Uu {p:Prop} (h:p:=by
 refine bP fH (cs:=[_,_,_,_,_]) H wn rfl rfl (H.hp.dx 1 rfl rfl) rfl ?_;exact jk):p:=h
theorem ace {p:Prop} (h:p:=by
 refine fP [(2,5,_)] rfl ⟨fun _ _ h=>h,aB⟩ (by kernel_rfl) iW rfl rfl ?_;intro bH a w G1 hG HT H fin;exact Uu):p:=h
theorem anm {n:Nat} (ih:FR n) (hn:n<=4294967296) (G:GH) (w0:World) (hG:Hold G w0) (x:aV) (cs:List ah) (hv:aY G x.dat cs) (hz:bV x.dat < n+1) :
  Calls prog 203 #[.agg cs.toArray] w0 (bK w0 G fun u G'=>∃ cs',u=.agg cs'.toArray∧aY G' x.dat cs'):=by
 have he:=Ah x;obtain ⟨pA,pn,pc,dA,dn,dc,yA,yn,yc,fA,fn,fc,rfl,hh,hf⟩:=hv.cell;refine eN [(0,_)] func203 rfl ntmps203 rfl rfl hG ?_;intro a H;refine cO (fun _ K1=>?_);refine dW (cs:=[_,_,_,_,_,_,_]) H wn rfl rfl rfl ?_;clear H;intro b1 a w hb1 H;refine dO lg H wn rfl ?_;clear H;intro b2 a w hb2 H;refine K1 _ _ ?_;clear K1;refine bD (fun _ K2=>?_)
 have iW:BS (fun (bT:Nat) (v:ah) (G:GH)=>match bT with|0=>v=(aJ b1 0)|1=>v=vi x.id|2=>v=(aJ b1 1)|3=>v=.agg #[.slice pA pn pc,vi x.head.marks.ins,vi x.head.marks.move,.slice dA dn dc,.slice yA yn yc]|4=>∃ p d l,v=.agg #[p,vi x.head.marks.ins,vi x.head.marks.move,d,l]∧jy G x.head p d l|5=>v=(aJ b1 6)|6=>v=.slice fA fn fc|7=>au G (.sl 11 (x.flow.map ak.dat)) v|_=>True):=by intro bT v G G' hm h;(iterate 10 (rcases bT with _|bT;(first|exact h|exact let ⟨p,d,l,h1,h2⟩:=h;⟨p,d,l,h1,h2.mono hm⟩|exact au.mono hm h)));exact trivial
 refine Au (hmx) [[],[0],[],[2],[2,3],[],[5],ra 2 5,ra 0 8,ra 0 9] [8,9] (by kernel_rfl) (by kernel_rfl) _ iW H ?_ ?_
 ·clear H;refine ay ?_ ?_ ?_ ?_ (ay ?_ ?_ ?_ ?_ (bF (bR rfl) (bF (bR rfl) cK)))
  ·exact acP
  ·exact acM
  ·exact acQ
  ·exact ace
  ·exact acp
  ·exact acR
  ·exact acV
  refine fP [(6,9,_)] rfl ⟨fun _ _ h=>h,aB⟩ (by kernel_rfl) iW rfl rfl ?_;intro bH a w G1 hG HT H fin;refine s_call VB H wn rfl (ih _ _ H.ro x.flow _ (hf.mono hG) (by omega)) rfl ?_;exact Uo
 clear H;intro a w G nJ H hv;have H:=H.aM (hv 1 4 rfl rfl) rfl;obtain ⟨u7,Xz,sW⟩:=hv 4 7 (by decide) rfl;(try dsimp only at sW);obtain ⟨p7,d7,l7,rfl,A9⟩:=sW;obtain ⟨a1,a2,a3,rfl⟩:=A9.props.form;obtain ⟨a4,a5,a6,rfl⟩:=A9.bE.form;obtain ⟨a7,a8,a9,rfl⟩:=A9.layers.form;have H:=H.iI Xz;obtain ⟨u10,Nz,yU⟩:=hv 7 10 (by decide) rfl;(try dsimp only at yU);obtain ⟨ZG,n10,c10,rfl⟩:=yU.form;have H:=H.iI Nz;clear hv;refine jD Y6 [_,_,_,_,_,_,_] H wn rfl rfl rfl rfl ?_;clear H;intro a H;refine bC lg 0 (vs:=[_,_,_,_,_,_,_]) H wn rfl ?_;clear H;intro w H;refine aD ⟨rfl,?_⟩;refine K2 _ _ ?_;clear K2;refine eO ?_;refine (leave1 H results203 (.cons (ny lg (cs:=[_,_,_,_,_,_,_]) H rfl rfl (H.hp.dx 0 rfl rfl)) .nil) ?_).1;exact H.rt ⟨_,rfl,aY.Rj A9 yU⟩
theorem anl {n:Nat} (ih:FR n) (hn:n<=4294967296) {G:GH} {w0:World} (x:aV) (hz:bV x.dat < n+1):I7 (.func (.func 203) #[] #[]) w0 G x.dat:=by
 intro G1 w1 cs hm1 hG1 hr;have h:=anm ih hn _ _ hG1 x cs hr hz;have h2:=jJ (P:=prog) (caps:=[]) (args:=[.agg cs.toArray]) apz h;exact h2
theorem UD {p:Prop} (h:p:=by
 refine fP [(1,4,_)] rfl ⟨fun _ _ h=>h,aB⟩ (by kernel_rfl) iW rfl rfl ?_;intro bH a w G1 hG HT H fin;refine s_call PW H wn rfl (PG _ _ H.ro x.head _ _ _ _ _ _ _ _ _ (hh.mono hG) (by omega)) rfl ?_;clear H;rintro v5 G5 a w vT lF H;exact fin H lF (vT)):p:=h
theorem acL {p:Prop} (h:p:=by
 refine fP [(3,6,_)] rfl ⟨fun _ _ h=>h,aB⟩ (by kernel_rfl) iW rfl rfl ?_;intro bH a w G1 hG HT H fin;exact kH H (Ro Ad 1 rfl fun _ H=>fin H iJ rfl)):p:=h
theorem acS {p:Prop} (h:p:=by
 refine fP [] rfl trivial (by kernel_rfl) iW rfl rfl ?_;intro bH a w G1 hG HT H fin;exact kH H (Rf Qd rfl fun _ H=>fin H iJ rfl)):p:=h
theorem acT {p:Prop} (h:p:=by
 refine fP [] rfl trivial (by kernel_rfl) iW rfl rfl ?_;intro bH a w G1 hG HT H fin;exact kH H (Rf zN rfl fun _ H=>fin H iJ rfl)):p:=h
theorem Ur {p:Prop} (h:p:=by
 clear H;rintro v8 G8 a w pW rW H;exact fin H rW (pW)):p:=h
theorem UA {p:Prop} (h:p:=by
 refine fP [(0,3,_)] rfl ⟨fun _ _ h=>h,aB⟩ (by kernel_rfl) iW rfl rfl ?_;intro bH a w G1 hG HT H fin;exact Uu):p:=h
theorem anD {n:Nat} (ih:FR n) (hn:n<=4294967296) (G:GH) (w0:World) (hG:Hold G w0) (x:aS) (cs:List ah) (hv:aY G x.dat cs) (hz:bV x.dat < n+1) :
  Calls prog 142 #[.agg cs.toArray] w0 (bK w0 G fun u G'=>∃ cs',u=.agg cs'.toArray∧aY G' x.dat cs'):=by
 have he:=Ai x;have hl:=IY x.cells;obtain ⟨pA,pn,pc,dA,dn,dc,yA,yn,yc,fA,fn,fc,rfl,hh,hf⟩:=hv.row;refine eN [(0,_)] func142 rfl ntmps142 rfl rfl hG ?_;intro a H;refine cO (fun _ K1=>?_);refine dW (cs:=[_,_,_,_,_,_]) H wn rfl rfl rfl ?_;clear H;intro b1 a w hb1 H;refine dO jV H wn rfl ?_;clear H;intro b2 a w hb2 H;refine K1 _ _ ?_;clear K1;refine bD (fun _ K2=>?_)
 have iW:BS (fun (bT:Nat) (v:ah) (G:GH)=>match bT with|0=>v=(aJ b1 0)|1=>v=.agg #[.slice pA pn pc,vi x.head.marks.ins,vi x.head.marks.move,.slice dA dn dc,.slice yA yn yc]|2=>∃ p d l,v=.agg #[p,vi x.head.marks.ins,vi x.head.marks.move,d,l]∧jy G x.head p d l|3=>v=(aJ b1 5)|4=>v=.slice fA fn fc|5=>au G (.sl 7 (x.cells.map aV.dat)) v|_=>True):=by intro bT v G G' hm h;(iterate 8 (rcases bT with _|bT;(first|exact h|exact let ⟨p,d,l,h1,h2⟩:=h;⟨p,d,l,h1,h2.mono hm⟩|exact au.mono hm h)));exact trivial
 refine Au (hmx) [[],[0],[0,1],[],[3],ra 0 5,ra 0 6,ra 0 7] [6,7] (by kernel_rfl) (by kernel_rfl) _ iW H ?_ ?_
 ·clear H;refine ay ?_ ?_ ?_ ?_ (ay ?_ ?_ (bR rfl) (bR rfl) cK)
  ·exact acS
  ·exact UA
  ·exact UD
  ·exact acT
  ·exact acL
  refine fP [(4,7,_)] rfl ⟨fun _ _ h=>h,aB⟩ (by kernel_rfl) iW rfl rfl ?_;intro bH a w G1 hG HT H fin;refine s_call aeC H wn rfl (aoe _ _ H.ro x.cells _ _ (hf.mono hG) (by omega) (fun y hy=>anl ih hn y (by have:=akL hy;omega))) rfl ?_;exact Ur
 clear H;intro a w G nJ H hv;obtain ⟨u5,Ik,vT⟩:=hv 2 5 (by decide) rfl;(try dsimp only at vT);obtain ⟨p5,d5,l5,rfl,ug⟩:=vT;obtain ⟨a1,a2,a3,rfl⟩:=ug.props.form;obtain ⟨a4,a5,a6,rfl⟩:=ug.bE.form;obtain ⟨a7,a8,a9,rfl⟩:=ug.layers.form;have H:=H.iI Ik;obtain ⟨u8,Bg,pW⟩:=hv 5 8 (by decide) rfl;(try dsimp only at pW);obtain ⟨A8,n8,c8,rfl⟩:=pW.form;have H:=H.iI Bg;clear hv;refine jD Y5 [_,_,_,_,_,_] H wn rfl rfl rfl rfl ?_;clear H;intro a H;refine bC jV 0 (vs:=[_,_,_,_,_,_]) H wn rfl ?_;clear H;intro w H;refine aD ⟨rfl,?_⟩;refine K2 _ _ ?_;clear K2;refine eO ?_;refine (leave1 H results142 (.cons (ny jV (cs:=[_,_,_,_,_,_]) H rfl rfl (H.hp.dx 0 rfl rfl)) .nil) ?_).1;exact H.rt ⟨_,rfl,aY.Rp ug pW⟩
theorem anC {n:Nat} (ih:FR n) (hn:n<=4294967296) {G:GH} {w0:World} (x:aS) (hz:bV x.dat < n+1):I7 (.func (.func 142) #[] #[]) w0 G x.dat:=by
 intro G1 w1 cs hm1 hG1 hr;have h:=anD ih hn _ _ hG1 x cs hr hz;have h2:=jJ (P:=prog) (caps:=[]) (args:=[.agg cs.toArray]) aoK h;exact h2
theorem ank {n:Nat} (ih:FR n) (hn:n<=4294967296) (G:GH) (w0:World) (hG:Hold G w0) (x:ak) (cs:List ah) (hv:aY G x.dat cs) (hz:bV x.dat < n+1) :
  Calls prog 141 #[.agg cs.toArray] w0 (bK w0 G fun u G'=>∃ cs',u=.agg cs'.toArray∧aY G' x.dat cs'):=by
 have he:=wY x;have hl:=IZ x.rows;obtain ⟨pA,pn,pc,dA,dn,dc,yA,yn,yc,fA,fn,fc,rA,rn,rc,rfl,hh,hf,hr⟩:=hv.item;refine eN [(0,_)] func141 rfl ntmps141 rfl rfl hG ?_;intro a H;refine cO (fun _ K1=>?_);refine dW (cs:=[_,_,_,_,_,_,_,_,_,_,_]) H wn rfl rfl rfl ?_;clear H;intro b1 a w hb1 H;refine dO gq H wn rfl ?_;clear H;intro b2 a w hb2 H;refine K1 _ _ ?_;clear K1;refine bD (fun _ K2=>?_)
 have iW:BS (fun (bT:Nat) (v:ah) (G:GH)=>match bT with|0=>v=(aJ b1 4)|1=>v=.agg #[.slice pA pn pc,vi x.head.marks.ins,vi x.head.marks.move,.slice dA dn dc,.slice yA yn yc]|2=>∃ p d l,v=.agg #[p,vi x.head.marks.ins,vi x.head.marks.move,d,l]∧jy G x.head p d l|3=>v=(aJ b1 9)|4=>v=.slice fA fn fc|5=>au G (.sl 11 (x.flow.map ak.dat)) v|6=>v=(aJ b1 10)|7=>v=.slice rA rn rc|8=>au G (.sl 6 (x.rows.map aS.dat)) v|9=>v=(aJ b1 4)|_=>True):=by intro bT v G G' hm h;(iterate 15 (rcases bT with _|bT;(first|exact h|exact let ⟨p,d,l,h1,h2⟩:=h;⟨p,d,l,h1,h2.mono hm⟩|exact au.mono hm h)));exact trivial
 refine Au (hmx) [[],[0],[0,1],[],[3],ra 0 5,[],[6],ra 0 8,[0,1,2,3,4,6,7],ra 0 10,ra 0 11,ra 0 12,ra 0 13,ra 0 14] (ra 10 5) (by kernel_rfl) (by kernel_rfl) _ iW H ?_ ?_
 ·clear H;refine ay ?_ ?_ ?_ ?_ (ay ?_ ?_ ?_ ?_ (ay ?_ ?_ (bR rfl) (bR rfl) (bF (bR rfl) (bF (bR rfl) (bF (bR rfl) cK)))))
  ·refine fP [] rfl trivial (by kernel_rfl) iW rfl rfl ?_;intro bH a w G1 hG HT H fin;exact kH H (Rf yN rfl fun _ H=>fin H iJ rfl)
  ·exact UA
  ·exact UD
  ·refine fP [] rfl trivial (by kernel_rfl) iW rfl rfl ?_;intro bH a w G1 hG HT H fin;exact kH H (Rf zM rfl fun _ H=>fin H iJ rfl)
  ·refine fP [(3,6,_)] rfl ⟨fun _ _ h=>h,aB⟩ (by kernel_rfl) iW rfl rfl ?_;intro bH a w G1 hG HT H fin;exact aaX
  ·refine fP [(4,7,_)] rfl ⟨fun _ _ h=>h,aB⟩ (by kernel_rfl) iW rfl rfl ?_;intro bH a w G1 hG HT H fin;refine s_call VB H wn rfl (ih _ _ H.ro x.flow _ (hf.mono hG) (by omega)) rfl ?_;exact Ur
  ·refine fP [] rfl trivial (by kernel_rfl) iW rfl rfl ?_;intro bH a w G1 hG HT H fin;exact kH H (Rf tZ rfl fun _ H=>fin H iJ rfl)
  ·refine fP [(6,9,_)] rfl ⟨fun _ _ h=>h,aB⟩ (by kernel_rfl) iW rfl rfl ?_;intro bH a w G1 hG HT H fin;exact kH H (Ro uy 1 rfl fun _ H=>fin H iJ rfl)
  ·refine fP [(7,10,_)] rfl ⟨fun _ _ h=>h,aB⟩ (by kernel_rfl) iW rfl rfl ?_;intro bH a w G1 hG HT H fin;refine s_call aeu H wn rfl (aoi _ _ H.ro x.rows _ _ (hr.mono hG) (by omega) (fun y hy=>anC ih hn y (by have:=akP hy;omega))) rfl ?_;clear H;rintro v11 zq a w xQ sU H;exact fin H sU (xQ)
  refine fP [] rfl trivial (by kernel_rfl) iW rfl rfl ?_;intro bH a w G1 hG HT H fin;exact kH H (Rf yN rfl fun _ H=>fin H iJ rfl)
 clear H;intro a w G nJ H hv;obtain ⟨u5,Ik,vT⟩:=hv 2 5 (by decide) rfl;(try dsimp only at vT);obtain ⟨p5,d5,l5,rfl,ug⟩:=vT;obtain ⟨a1,a2,a3,rfl⟩:=ug.props.form;obtain ⟨a4,a5,a6,rfl⟩:=ug.bE.form;obtain ⟨a7,a8,a9,rfl⟩:=ug.layers.form;have H:=H.iI Ik;obtain ⟨u8,Bg,pW⟩:=hv 5 8 (by decide) rfl;(try dsimp only at pW);obtain ⟨A8,n8,c8,rfl⟩:=pW.form;have H:=H.iI Bg;obtain ⟨Zj,Ij,xQ⟩:=hv 8 11 (by decide) rfl;(try dsimp only at xQ);obtain ⟨A11,n11,c11,rfl⟩:=xQ.form;have H:=H.iI Ij;have H:=H.aM (hv 9 12 rfl rfl) rfl;clear hv;refine bC fH 1 (vs:=[_,_,_,_,_]) H wn rfl ?_;clear H;intro w H;refine kH H (Rf zM rfl ?_);clear H;intro a H;refine bC kC 1 (vs:=[_]) H wn rfl ?_;clear H;intro w H;refine kH H (Rf tZ rfl ?_);clear H;intro a H;refine bC uy 1 (vs:=[_]) H wn rfl ?_;clear H;intro w H;refine aD ⟨rfl,?_⟩;refine K2 _ _ ?_;clear K2;refine cO (fun _ K3=>?_);refine bP gq (cs:=[_,_,_,_,_,_,_,_,_,_,_]) H wn rfl rfl (H.hp.dx 1 rfl rfl) rfl ?_;clear H;intro a H;refine bC gq 0 (vs:=[_,_,_,_,_,_,_,_,_,_,_]) H wn rfl ?_;clear H;intro w H;refine K3 _ _ ?_;clear K3;refine eO ?_;refine (leave1 H results141 (.cons (ny gq (cs:=[_,_,_,_,_,_,_,_,_,_,_]) H rfl rfl (H.hp.dx 0 rfl rfl)) .nil) ?_).1;exact H.rt ⟨_,rfl,aY.mkItem ug pW xQ⟩
theorem adF {n:Nat} (ih:FR n) (hn:n<=4294967296) {G:GH} {w0:World} (x:ak) (hz:bV x.dat < n+1):I7 (.func (.func 141) #[] #[]) w0 G x.dat:=by
 intro G1 w1 cs hm1 hG1 hr;have h:=ank ih hn _ _ hG1 x cs hr hz;have h2:=jJ (P:=prog) (caps:=[]) (args:=[.agg cs.toArray]) aoJ h;exact h2
theorem Vb:∀ n:Nat,n<=4294967297->FR n
 | 0,_=>fun _ _ _ _ _ _ h=>absurd h (by omega)
 | n+1,hn=>by
  intro G w0 hG l v hv hz;have ih:=Vb n (by omega);have hl:=FN l;refine eN [(0,_)] func80 rfl ntmps80 rfl rfl hG ?_;intro a H;refine kP H (SR fun _ K1=>aj K1 rfl (SR fun _ K2=>Rm rfl ?_));clear H K1;intro a H;refine s_call aez H wn rfl (aof _ _ H.ro l _ _ hv (by omega) (fun y hy=>adF ih (by omega) y (by have:=ZB hy;omega))) rfl ?_;clear H;rintro v4 G4 a w Xo JZ H;exact kH H (aj K2 rfl (LR results80 rfl fun H=>H.rt Xo))
section
section
variable {P:Program} {N:Nat} {D:List Deferred} {w0 w w':World} {F:Nat->Prop} {G0 G G':GH} {L L' Li Lo:OL} {T:List (Nat × ah)} {a a':Act} {Q:Exit->Act->World->Prop}
theorem St.cast (h:St N D w0 F G0 G L T a w) (e:L=L'):St N D w0 F G0 G L' T a w:=e ▸ h
theorem St.assoc {A B C:OL} (h:St N D w0 F G0 G ((A++B)++C) T a w):St N D w0 F G0 G (A++(B++C)) T a w:=h.cast (iZ _ _ _)
theorem St.un {A B C:OL} (h:St N D w0 F G0 G (A++(B++C)) T a w):St N D w0 F G0 G ((A++B)++C) T a w:=h.cast (iZ _ _ _).symm
theorem St.NQ {A B:OL} (h:St N D w0 F G0 G (A++B) T a w):St N D w0 F G0 G (A++(B++[])) T a w:=h.cast (by rw [ig])
theorem U5 {ι κ:Type} {Lc:OL} {AA:Operand} {ps:List Nat} {assign body:Code} {gf:FuncId} {caps:List ah} {xs:List AP} {Gi:GH}
  (Lv:Nat->ι->OL) (Lt:Nat->ι->OL) (inv:Nat->ι->GH->Prop) (cx:κ->Code) (Lx F7:κ->OL) (Bj:κ->GH->Prop) (i0:ι)
  (H:St N D w0 F G0 G (Lc++Lv 0 i0++Lt 0 i0) T a w) (hg:ev T AA=some (.func (.func gf) #[] caps.toArray)) (en:∀ args w,(callFunc gf args).run P w=.ok (.enter gf args) w) (hit:Iter P Gi (.func (.func gf) #[] caps.toArray) xs) (hGi:∀ b o,Gi b=some o->G b=some o)
  (hps:ps.all (Nat.blt · N)=true) (hlen:∀ k args g,wZ xs k args g->args.length=ps.length) (hinv:∀ k i (G G':GH),(∀ b o,G b=some o->G' b=some o)->inv k i G->inv k i G') (Xd:∀ x (G G':GH),(∀ b o,G b=some o->G' b=some o)->Bj x G->Bj x G') (h0:inv 0 i0 G)
  (round:∀ (l:Nat) (Eh Ar:Obj) (bk:OL) (k:Nat) (args:List ah) (i:ι) (G1:GH) (w1:World) (F1:Nat->Prop) (B1:Code->Exit->Act->World->Prop) (a1:Act),wZ xs k args G1->(∀ b o,G b=some o->G1 b=some o)->inv k i G1 ->
   (∀ T' G2 L2 a2 w2 c,St N [] w1 F1 G1 G2 ((l,Eh) :: L2) T' a2 w2->(∀ w3,St N [] w1 F1 G1 G2 ((l,Ar) :: L2) T' a2 w3->WP (some l) P c (B1 c) a2 w3)->Exit.then (fun a2 w2=>∃ w3,(Instr.beginRound l).run P w2=.ok () w3∧c.wpIn (FW (some l)) 0 P (B1 c) a2 w3) (fun _ _ _=>False) .normal a2 w2) ->
   (∀ i' T' G2 a2 w2 c,St N [] w1 F1 G1 G2 ((l,Ar) :: (Lc++Lv (k+1) i'++(bk++Lt (k+1) i'))) T' a2 w2->inv (k+1) i' G2->B1 c .normal a2 w2) ->
   (∀ x T' G2 a2 w2 c,St N [] w1 F1 G1 G2 ((l,Ar) :: (Lc++Lx x++(bk++F7 x))) T' a2 w2->Bj x G2->(cx x=.ret->B1 c .ret a2 w2)∧∀ n,cx x=.exit n->B1 c (.exit n) a2 w2) ->
   St N [] w1 F1 G1 G1 ((l,Eh) :: (Lc++Lv k i++(bk++Lt k i))) (zF ps args T) a1 w1 ->
   WP (some l) P assign (Exit.then (fun a2 w2=>∃ w3,(Instr.beginRound l).run P w2=.ok () w3∧body.wpIn (FW (some l)) 0 P (B1 body) a2 w3) (fun _ _ _=>False)) a1 w1)
  (hdone:∀ Dk i G1 a1 w1,(∀ b o,G b=some o->G1 b=some o)->inv xs.length i G1->St N ({ target:=.collected Dk,args:=#[] } :: D) w0 F G0 G1 ((Dk,.deferred (some [])) :: (Lc++Lv xs.length i++Lt xs.length i)) T a1 w1->Q .normal a1 w1)
  (hstop:∀ Dk x G1 a1 w1,(∀ b o,G b=some o->G1 b=some o)->Bj x G1->St N ({ target:=.collected Dk,args:=#[] } :: D) w0 F G0 G1 ((Dk,.deferred (some [])) :: (Lc++Lx x++F7 x)) T a1 w1->WP none P (cx x) Q a1 w1) :
  WP none P (.rangeFunc AA ps.toArray assign body) Q a w:=by
 refine amv (J:=fun k g L=>∃ i,L=Lc++Lv k i++Lt k i∧inv k i g) (Jx:=fun c g L=>∃ x,c=cx x∧L=Lc++Lx x++F7 x∧Bj x g) H hg en hit hGi hps hlen (fun k G G' L hm ⟨i,e,h⟩=>⟨i,e,hinv k i G G' hm h⟩) (fun c G G' L hm ⟨x,e1,e2,h⟩=>⟨x,e1,e2,Xd x G G' hm h⟩) ⟨i0,rfl,h0⟩ ?_ ?_ ?_
 ·rintro l q bk k args G1 L1 w1 a1 hk hm ⟨i,rfl,hi⟩ H1
  have pm:∀ A B:OL,(bk++(A++B)).Perm (A++(bk++B)):=fun A B=>by
   rw [<- iZ,<- iZ]
   exact List.Perm.append_right B pK
  refine round l (q.at .ready none) (q.at .busy none) bk k args i G1 w1 _ (fun _=>roundPost P l _) a1 hk hm hi ?_ ?_ ?_ (H1.perm (List.Perm.cons _ (pm _ _)))
  ·intro T' G2 L2 a2 w2 c H2 h
   exact adi H2 h
  ·intro i' T' G2 a2 w2 c H2 h2
   exact KR none (H2.perm (List.Perm.cons _ (pm _ _).symm)) ⟨_,rfl,i',rfl,h2⟩
  ·intro x T' G2 a2 w2 c H2 h2
   have H3:=H2.perm (List.Perm.cons _ (pm _ _).symm)
   refine ⟨fun e=>?_,fun n e=>?_⟩
   ·exact KR (some .ret) H3 ⟨_,_,rfl,x,e.symm,rfl,h2⟩
   ·exact KR (some (.exit n)) H3 ⟨_,_,rfl,x,e.symm,rfl,h2⟩
 ·rintro Dk G1 L1 a1 w1 hm ⟨i,rfl,hi⟩ H1
  exact hdone Dk i G1 a1 w1 hm hi H1
 ·rintro Dk c G1 L1 a1 w1 hm ⟨x,rfl,rfl,hx⟩ H1
  exact hstop Dk x G1 a1 w1 hm hx H1
def Yd (ds:List Nat):List Deferred:=ds.map fun b=>{ target:=.collected b,args:=#[] }
def Iy (ds:List Nat):OL:=ds.map fun b=>(b,.deferred (some []))
theorem amu {r:Option Nat} {ι:Type} {c:Code} {Tc:List (Nat × ah)} {Lc:List (Nat × Obj)} (Dv:ι->List Deferred) (Tv:ι->List (Nat × ah)) (Lv:ι->List (Nat × Obj)) (Gv:ι->GH) (Pr:ι->Prop) (m:ι->Nat) (i0:ι)
  (H:St N (Dv i0) w0 F G0 (Gv i0) (Lc++Lv i0) (Tv i0++Tc) a w) (hP:Pr i0)
  (round:∀ i a w,Pr i->St N (Dv i) w0 F G0 (Gv i) (Lc++Lv i) (Tv i++Tc) a w ->
   WP r P c (Exit.then (fun a' w'=>∃ i',(St N (Dv i') w0 F G0 (Gv i') (Lc++Lv i') (Tv i'++Tc) a' w'∧Pr i')∧m i' < m i) Q) a w):WP r P (.loop c) Q a w :=
 adn (fun i a w=>St N (Dv i) w0 F G0 (Gv i) (Lc++Lv i) (Tv i++Tc) a w∧Pr i) m i0 ⟨H,hP⟩ fun i a w hI=>round i a w hI.2 hI.1
theorem awf {ι:Type} {Dv:ι->List Deferred} {Tc:List (Nat × ah)} {Lc:List (Nat × Obj)} {Tv:ι->List (Nat × ah)} {Lv:ι->List (Nat × Obj)} {Gv:ι->GH} {Pr:ι->Prop} {m:ι->Nat} {i:ι} (i':ι)
  (H:St N (Dv i') w0 F G0 (Gv i') (Lc++Lv i') (Tv i'++Tc) a w) (hP:Pr i') (hm:m i' < m i) :
  ∃ i',(St N (Dv i') w0 F G0 (Gv i') (Lc++Lv i') (Tv i'++Tc) a w∧Pr i')∧m i' < m i:=⟨i',⟨H,hP⟩,hm⟩
theorem XW {fn:Func} {R:Ending->World->Prop} {Lh Lt:OL}:∀ (ds:List Nat) {a:Act} {w:World},St N (Yd ds) w0 F G0 G (Lh++(Iy ds++Lt)) T a w ->
  (∀ a' w',St N [] w0 F G0 G (Lh++Lt) T a' w'->bodyPostM (FW none) 0 P fn R .ret a' w')->bodyPostM (FW none) 0 P fn R .ret a w∧bodyPostM (FW none) 0 P fn R .normal a w
 | [],a,w,H,k=>⟨k a w H,k a w H⟩
 | b :: ds,a,w,H,k=>by
  refine NM (b:=b) (D:=Yd ds) H Lh.length (by rw [uJ (eu _),Nat.sub_self];rfl) fun a' w' H'=>?_
  refine (XW ds (Lh:=Lh) (Lt:=Lt) (H'.cast ?_) k).1
  rw [List.eraseIdx_append_of_length_le (eu _),Nat.sub_self];rfl
end
end
def n1 (x:ak):Nat:=if Dc x=0 then jw x else 0
theorem au.len {G:GH} {sz:Nat} {rows:List (List Dat)} {A:Option Addr} {n c:Nat} (h:au G (.sl sz rows) (.slice A n c)):n=rows.length:=h.cells.1
theorem au.at_ {G:GH} {sz:Nat} {rows:List (List Dat)} {A:Option Addr} {n c:Nat} (h:au G (.sl sz rows) (.slice A n c)):∀ k r,rows[k]?=some r->∃ b o cs,A=some ⟨b,o,none⟩∧cs.length=sz∧(∀ j u,cs[j]?=some u->aH G b (o+k*sz+j)=some u)∧aY G r cs:=by
 obtain ⟨A2,c2,e,_,_,hg⟩:=h.slice
 cases e;exact hg
theorem KS {G:GH} {l:List aS} {A:Option Addr} {k:Nat} (hk:k < l.length) (hg:∀ k r,(l.map aS.dat)[k]?=some r->∃ b o cs,A=some ⟨b,o,none⟩∧cs.length=6∧(∀ j u,cs[j]?=some u->aH G b (o+k*6+j)=some u)∧aY G r cs) :
  ∃ b o pA pn pc dA dn dc yA yn yc cA cn cc,A=some ⟨b,o,none⟩∧(∀ j u,[.slice pA pn pc,vi l[k].head.marks.ins,vi l[k].head.marks.move,.slice dA dn dc,.slice yA yn yc,.slice cA cn cc][j]?=some u->aH G b (o+k*6+j)=some u) ∧
   jy G l[k].head (.slice pA pn pc) (.slice dA dn dc) (.slice yA yn yc)∧au G (.sl 7 (l[k].cells.map aV.dat)) (.slice cA cn cc):=by
 obtain ⟨b,o,cs,h1,h2,h3,h4⟩:=hg k l[k].dat (by simp [hk]);obtain ⟨pA,pn,pc,dA,dn,dc,yA,yn,yc,cA,cn,cc,rfl,h5,h6⟩:=h4.row;exact ⟨b,o,pA,pn,pc,dA,dn,dc,yA,yn,yc,cA,cn,cc,h1,h3,h5,h6⟩
theorem JJ {G:GH} {l:List aV} {A:Option Addr} {k:Nat} (hk:k < l.length) (hg:∀ k r,(l.map aV.dat)[k]?=some r->∃ b o cs,A=some ⟨b,o,none⟩∧cs.length=7∧(∀ j u,cs[j]?=some u->aH G b (o+k*7+j)=some u)∧aY G r cs) :
  ∃ b o pA pn pc dA dn dc yA yn yc fA fn fc,A=some ⟨b,o,none⟩∧(∀ j u,[vi l[k].id,.slice pA pn pc,vi l[k].head.marks.ins,vi l[k].head.marks.move,.slice dA dn dc,.slice yA yn yc,.slice fA fn fc][j]?=some u->aH G b (o+k*7+j)=some u) ∧
   jy G l[k].head (.slice pA pn pc) (.slice dA dn dc) (.slice yA yn yc)∧au G (.sl 11 (l[k].flow.map ak.dat)) (.slice fA fn fc):=by
 obtain ⟨b,o,cs,h1,h2,h3,h4⟩:=hg k l[k].dat (by simp [hk]);obtain ⟨pA,pn,pc,dA,dn,dc,yA,yn,yc,fA,fn,fc,rfl,h5,h6⟩:=h4.cell;exact ⟨b,o,pA,pn,pc,dA,dn,dc,yA,yn,yc,fA,fn,fc,h1,h3,h5,h6⟩
structure jO where
 (f p d y r s1 s2 s3 s4:Option Addr × Nat × Nat)
 (ins move:Int)
abbrev cB (x:Option Addr × Nat × Nat):ah:=.slice x.1 x.2.1 x.2.2
abbrev jO.cells (D:jO):List ah:=[cB D.f,cB D.p,vi D.ins,vi D.move,cB D.d,cB D.y,cB D.r,cB D.s1,cB D.s2,cB D.s3,cB D.s4]
abbrev jO.val (D:jO):ah:=.agg D.cells.toArray
theorem Vv:aQ 202:=aR func202 rfl
theorem SF:Ty prog 129 3 16 [.bool false,.bool false,.int .i64 0] true:=⟨by kernel_rfl,by kernel_rfl⟩
theorem aAo:qK prog 146 [(0,1),(1,3)] [.slice none 0 0,.bool false,.bool false,.int .i64 0]:=⟨by kernel_rfl,by kernel_rfl⟩
theorem GY:dH prog 68 2 2:=⟨by kernel_rfl⟩
theorem ML:dH prog 129 2 2:=⟨by kernel_rfl⟩
theorem FI:qK prog 129 [(0,1),(1,1),(2,1)] [.bool false,.bool false,.int .i64 0]:=⟨by kernel_rfl,by kernel_rfl⟩
theorem VI:dH prog 129 1 1:=⟨by kernel_rfl⟩
theorem Db:Ty prog 4 1 1 [.bool false] false:=⟨by kernel_rfl,by kernel_rfl⟩
theorem vJ:dH prog 38 0 0:=⟨by kernel_rfl⟩
theorem aoH:aQ 139:=aR func139 rfl
theorem aeI:aQ 201:=aR func201 rfl
structure mq where
 id:Int
 items:List ak
 body:Bool
 note:Bool
 tables:Int
mutual
def BJ (note:Bool) (t:Int):ak->List mq
 | .mk k _ i _ _ f r=>if k=6 then ⟨i,f,false,true,t⟩ :: lN true t f else if k=7 then tJ note t r else []
def lN (note:Bool) (t:Int):List ak->List mq
 | []=>[]
 | x :: l=>BJ note t x++lN note t l
def tJ (note:Bool) (t:Int):List aS->List mq
 | []=>[]
 | r :: l=>BK note t r++tJ note t l
def BK (note:Bool) (t:Int):aS->List mq
 | .mk _ cs=>uz note t cs
def uz (note:Bool) (t:Int):List aV->List mq
 | []=>[]
 | c :: l=>BI note t c++uz note t l
def BI (note:Bool) (t:Int):aV->List mq
 | .mk i _ f=>⟨i,f,false,note,t+1⟩ :: lN note (t+1) f
end
theorem aBa (note:Bool) (t:Int) (x:ak):BJ note t x=if x.kind=6 then ⟨x.id,x.flow,false,true,t⟩ :: lN true t x.flow else if x.kind=7 then tJ note t x.rows else []:=by cases x;rw [BJ];rfl
theorem aBe (note:Bool) (t:Int) (x:aS):BK note t x=uz note t x.cells:=by cases x;rw [BK];rfl
theorem aA5 (note:Bool) (t:Int) (x:aV):BI note t x=⟨x.id,x.flow,false,note,t+1⟩ :: lN note (t+1) x.flow:=by cases x;rw [BI];rfl
def DC (a:mq):AP:=fun args g=>∃ v,args=[vi a.id,.agg #[v,.bool a.body,.bool a.note,vi a.tables]]∧au g (.sl 11 (a.items.map ak.dat)) v
def TU (n:Nat):Prop:=∀ (fv:ah) (Gi:GH) (xs:List AP) (J:Nat->GH->OL->Prop) (Jx:GH->OL->Prop) (G:GH) (L:OL) (w0:World) (j:Nat) (l:List ak) (id:Int) (body note:Bool) (t:Int) (v:ah),
 (∀ b o,Gi b=some o->G b=some o)->Et prog fv Gi xs J Jx->Dh J->Gg Jx->J j G L->gH G L w0->au G (.sl 11 (l.map ak.dat)) v->bO l < n->0<=t->t+bO l<=4294967296->(∀ i a,(⟨id,l,body,note,t⟩ :: lN note t l)[i]?=some a->xs[j+i]?=some (DC a)) ->
 Calls prog 202 #[vi id,v,.agg #[.bool body,.bool note,vi t],fv] w0 (fU w0 G L fun u G' L'=>∃ b,u=.bool b∧(b=true->J (j+((lN note t l).length+1)) G' L')∧(b=false->Jx G' L'))
theorem O9 {p:Prop} (h:p:=by
 first
  | exact H.hp.jY (L':=aad) (by repeat (first|exact jE _|apply List.Sublist.cons)) ⟨_,rfl,fun e=>(by cases e),fun _=>hb2 (by simpa using h21)⟩
  | exact H.hp.jY (L':=OU) (by repeat (first|exact jE _|apply List.Sublist.cons)) ⟨_,rfl,fun e=>(by cases e),fun _=>hb4 (by simpa using wJ)⟩
  | exact H.hp.jY (L':=aai) (by repeat (first|exact jE _|apply List.Sublist.cons)) ⟨_,rfl,fun e=>(by cases e),fun _=>hb6 (by simpa using vN)⟩
  | exact H.hp.jY (L':=Lt) (by repeat (first|exact jE _|apply List.Sublist.cons)) ⟨_,rfl,fun _=>(by rw [pJ (by omega),lN] at fI;have:=fI.len;simp only [List.length_nil,zy] at this;rw [<- this];exact fI.now),fun e=>(by cases e)⟩):p:=h
set_option maxHeartbeats 1000000 in
theorem aBh {n:Nat} (ih:TU n) (hn:n<=4294967296):TU (n+1):=by
 intro fv Gi xs J Jx G L w0 j0 l id body note t v hGi hcb qy hJx hJ0 hO hv hz ht0 ht1 hx0;obtain ⟨A,c,rfl,hc1,hc2,hg⟩:=hv.slice;rw [bQ] at *;have hll:=FN l;have Xk:Now xs DC J (j0+((lN note t l).length+1)) j0 (⟨id,l,body,note,t⟩ :: lN note t l) G L:=⟨hJ0,hx0,rfl⟩;refine jc (N:=74) (T:=[(0,_),(1,_),(2,_),(3,_)]) func202 rfl ntmps202 rfl rfl hO ?_;intro a H;refine cO (fun _ K1=>?_);refine dW (cs:=[_,_,_]) H wn rfl rfl rfl ?_;clear H;intro b6 a w hb6 H;refine kH H (aj K1 rfl (SQ fun _ K2=>SR fun _ K3=>Rm rfl (Rm rfl (Rm rfl ?_))));clear H K1;intro a H;refine bP SF (cs:=[_,_,_]) H wn rfl rfl (H.hp.dx 0 rfl rfl) rfl ?_;clear H;intro a H;refine jD aAo [_,_,_,_] H wn rfl rfl rfl rfl ?_;clear H;intro a H;refine xY (Li:=[_]) (L:=L) H wn rfl rfl (hcb _ _ _ _ _ ⟨_,Xk.head,_,rfl,hv⟩ hGi Xk.now (Hp.owns (Li:=[_]) H.hp)) rfl ?_;clear H;rintro v20 FU aad a w ⟨b20,rfl,hb1,hb2⟩ rG H;refine kH H (Rn rfl (Kz K3 (Cd rfl ?_ ?_))) <;> clear H K3
 ·intro h21 a H
  try have wU:=dT h21
  refine kP H (SR fun _ K4=>aj K4 rfl ?_);clear H K4;intro a H;refine lr H results202 rfl ?_
  exact O9
 intro h21 a H
 try have wU:=dF h21
 refine kP H (Kc K2 (SQ fun _ K5=>SR fun _ K6=>Rm rfl (Rl jq rfl (Rm rfl (Kz K6 (SB ?_))))));clear H K2 K6;intro a H;skip;refine eX (ι:=Nat × Nat × OL × GH) (Tc:=[(3,_),(6,_),(22,_),(23,_)]) (Lc:=[(_,_)]) (fun gh=>[(24,vi gh.1)]) (fun gh=>[]++gh.2.2.1) (fun gh=>gh.2.2.2) (fun gh=>gh.1<=l.length∧(∀ b o,G b=some o->gh.2.2.2 b=some o)∧Now xs DC J (j0+((lN note t l).length+1)) gh.2.1 (lN note t (l.drop gh.1)) gh.2.2.2 gh.2.2.1) (fun gh=>l.length - gh.1) ((0,j0+1,aad,FU)) (by exact H.sub ⟨rfl,rfl,rfl,rfl,rfl,aB⟩) ?_ ?_
 ·exact ⟨by omega,rG,Xk.step (hb1 (by simpa using h21))⟩
 clear H;rintro ⟨k,j1,Lt,g⟩ a w hI H;dsimp only at hI H;obtain ⟨hk,hgm,fI⟩:=hI;dsimp only [lca,bJ] at H;refine kP H (SR fun _ K7=>Rc rfl (Kz K7 (SQ fun _ K8=>Cd rfl ?_ ?_))) <;> clear H K7
 ·intro iy a H
  try have p25:=dT iy
  have hk2:k < l.length:=by omega
  obtain ⟨b,o,pA,pn,pc,dA,dn,dc,yA,yn,yc,fA,fn,fc,rA,rn,rc,rfl,hrow,hhd,hfl,hrw⟩:=DF hk2 hg;replace hrow:=fun j u hj=>aF hgm (hrow j u hj);have hrn:=hrw.len;rw [bQ] at hrn;subst hrn;have hrs:=IZ l[k].rows;have hsz1:=Ot hk2;rw [oF hk2] at fI
  simp only [lN,aBa] at fI
  refine kP H (Kc K8 (SQ fun _ K9=>SB (SR fun _ aW=>Ri jq gq rfl rfl ?_)));clear H K8;intro a H;refine bP gq (cs:=[_,_,_,_,_,_,_,_,_,_,_]) H wn rfl rfl (fun j v hj=>H.hp.aH (hrow j v hj)) rfl ?_;clear H;intro a H;refine dO gq H wn rfl ?_;clear H;intro b10 a w agh H;refine bC gq 0 (vs:=[_,_,_,_,_,_,_,_,_,_,_]) H wn rfl ?_;clear H;intro w H;refine aW _ _ ?_;clear aW;refine kP H (SR fun _ bM=>bq jF aC 0 rfl rfl (Kz bM (SB (SR fun _ bU=>Rc rfl (aj bU rfl (Cd rfl ?_ ?_)))))) <;> clear H bM bU
  ·intro mG a H
   try have p30:=dT mG
   rw [aG p30] at fI;refine kP H (SR fun _ bY=>bq GY aC 0 rfl rfl (bq zM kC 0 rfl rfl (bq ML aC 1 rfl rfl ?_)));clear H;intro a H;refine jD FI [_,_,_] H wn rfl rfl rfl rfl ?_;clear H;intro a H;refine kH H (Rm rfl ?_);clear H;intro a H;refine gy Vv (Li:=[_,_]) (L:=Lt) H wn rfl (ih fv Gi xs J Jx _ _ _ j1 l[k].flow l[k].id false true t _ (fun b o h=>hgm b o (hGi b o h)) hcb qy hJx fI.now (Hp.owns (Li:=[_,_]) H.hp) (hfl.mono hgm) (by omega) ht0 (by omega) fI.part) rfl ?_;clear H;rintro v40 LH OU a w ⟨b40,rfl,hb3,hb4⟩ DZ H;refine kH H (Rn rfl (Kz bY (Cd rfl ?_ ?_))) <;> clear H bY
   ·intro wJ a H
    try have p41:=dT wJ
    refine kP H (SR fun _ cZ=>aj cZ rfl ?_);clear H cZ;intro a H;refine lr H results202 rfl ?_
    exact O9
   intro wJ a H
   try have p41:=dF wJ
   refine kP H (Kc K9 (SC (Rd rfl (Rm rfl ?_))));clear H K9;intro a H;refine aD ?_;refine dG ((k+1,j1+((lN true t l[k].flow).length+1),OU,LH)) (by exact (H.eD (Pl:=[_,_]) (dN:=[_]) [1] (by decide) rfl).sub ⟨rfl,rfl,rfl,rfl,rfl,aB⟩) ?_
   (try dsimp only);exact ⟨by omega,fun b o h=>DZ b o (hgm b o h),fI.jump (hb3 (by simpa using wJ))⟩
  intro mG a H
  try have p30:=dF mG
  refine kP H (SR fun _ dQ=>Rc rfl (aj dQ rfl (Cd rfl ?_ ?_))) <;> clear H dQ
  ·intro jM a H
   try have p42:=dT jM
   rw [av p30,aG p42] at fI;refine kP H (SR fun _ dR=>bq tZ uy 0 rfl rfl (Rl nP rfl (Rm rfl (Kz dR (SB ?_)))));clear H dR;intro a H;skip;refine eX (ι:=Nat × Nat × OL × GH) (Tc:=[(3,_),(6,_),(22,_),(23,_),(24,_),(45,_),(46,_)]) (Lc:=[(_,_),(_,_)]) (fun gh=>[(47,vi gh.1)]) (fun gh=>[]++gh.2.2.1) (fun gh=>gh.2.2.2) (fun gh=>gh.1<=l[k].rows.length∧(∀ b o,G b=some o->gh.2.2.2 b=some o)∧Now xs DC J (j0+((lN note t l).length+1)) gh.2.1 (tJ note t (l[k].rows.drop gh.1)++lN note t (l.drop (k+1))) gh.2.2.2 gh.2.2.1) (fun gh=>l[k].rows.length - gh.1) ((0,j1,Lt,g)) (by exact H.sub ⟨rfl,rfl,rfl,rfl,rfl,rfl,rfl,rfl,aB⟩) ?_ ?_
   ·exact ⟨by omega,hgm,fI⟩
   clear H;rintro ⟨rk,j3,Lt3,g3⟩ a w hI H;dsimp only at hI H;obtain ⟨hrk,qR,rY⟩:=hI;dsimp only [lca,bJ] at H;refine kP H (SR fun _ dK=>Rc rfl (Kz dK (SQ fun _ dX=>Cd rfl ?_ ?_))) <;> clear H dK
   ·intro h48 a H
    try have p48:=dT h48
    have hk3:rk < l[k].rows.length:=by omega
    obtain ⟨b2,o2,qA,qn,qc,eA,en,ec,zA,zn,zc,cA,cn,cc,rfl,hrow,D7,hcl⟩:=KS hk3 hrw.at_;replace hrow:=fun j u hj=>aF qR (hrow j u hj);have hcn:=hcl.len;rw [bQ] at hcn;subst hcn;have hsz2:=Ou hk3;have hcs:=IY l[k].rows[rk].cells;rw [oF hk3] at rY
    simp only [tJ,aBe,iZ] at rY
    refine kP H (Kc dX (SQ fun _ fM=>SB (SR fun _ eP=>Ri nP jV rfl rfl ?_)));clear H dX;intro a H;refine bP jV (cs:=[_,_,_,_,_,_]) H wn rfl rfl (fun j v hj=>H.hp.aH (hrow j v hj)) rfl ?_;clear H;intro a H;refine dO jV H wn rfl ?_;clear H;intro b12 a w Hy H;refine bC jV 0 (vs:=[_,_,_,_,_,_]) H wn rfl ?_;clear H;intro w H;refine eP _ _ ?_;clear eP;refine kP H (SR fun _ gB=>bq zN Ad 0 rfl rfl (Rl qH rfl (Rm rfl (Kz gB (SB ?_)))));clear H gB;intro a H;skip;refine eX (ι:=Nat × Nat × OL × GH) (Tc:=[(3,_),(6,_),(22,_),(23,_),(24,_),(45,_),(46,_),(47,_),(52,_),(53,_)]) (Lc:=[(_,_),(_,_),(_,_)]) (fun gh=>[(54,vi gh.1)]) (fun gh=>[]++gh.2.2.1) (fun gh=>gh.2.2.2) (fun gh=>gh.1<=l[k].rows[rk].cells.length∧(∀ b o,G b=some o->gh.2.2.2 b=some o)∧Now xs DC J (j0+((lN note t l).length+1)) gh.2.1 (uz note t (l[k].rows[rk].cells.drop gh.1)++(tJ note t (l[k].rows.drop (rk+1))++lN note t (l.drop (k+1)))) gh.2.2.2 gh.2.2.1) (fun gh=>l[k].rows[rk].cells.length - gh.1) ((0,j3,Lt3,g3)) (by exact H.sub ⟨rfl,rfl,rfl,rfl,rfl,rfl,rfl,rfl,rfl,rfl,rfl,aB⟩) ?_ ?_
    ·exact ⟨by omega,qR,rY⟩
    clear H;rintro ⟨ck,j4,Lt4,g4⟩ a w hI H;dsimp only at hI H;obtain ⟨hck,uU,qz⟩:=hI;dsimp only [lca,bJ] at H;refine kP H (SR fun _ iH=>Rc rfl (Kz iH (SQ fun _ jP=>Cd rfl ?_ ?_))) <;> clear H iH
    ·intro nW a H
     try have p55:=dT nW
     have hk4:ck < l[k].rows[rk].cells.length:=by omega
     obtain ⟨b3,o3,sA,sn,sc,tA,tn,tc,uA,un,uc,gA,gn,gc,rfl,hrow,hch,hcf⟩:=JJ hk4 hcl.at_;replace hrow:=fun j u hj=>aF uU (hrow j u hj);have ahl:=Oq hk4;rw [oF hk4] at qz
     simp only [uz,aA5,iZ] at qz
     refine kP H (Kc jP (SQ fun _ jH=>SB (SR fun _ jr=>Ri qH lg rfl rfl ?_)));clear H jP;intro a H;refine bP lg (cs:=[_,_,_,_,_,_,_]) H wn rfl rfl (fun j v hj=>H.hp.aH (hrow j v hj)) rfl ?_;clear H;intro a H;refine dO lg H wn rfl ?_;clear H;intro b14 a w WI H;refine bC lg 0 (vs:=[_,_,_,_,_,_,_]) H wn rfl ?_;clear H;intro w H;refine jr _ _ ?_;clear jr;refine kP H (SR fun _ kN=>bq MV aC 0 rfl rfl (bq GZ kC 0 rfl rfl (bq VI Db 3 rfl rfl (bq ML aC 3 rfl rfl (Rd rfl ?_)))));clear H;intro a H;refine jD FI [_,_,_] H wn rfl rfl rfl rfl ?_;clear H;intro a H;refine kH H (Rm rfl ?_);clear H;intro a H;refine gy Vv (Li:=[_,_,_,_]) (L:=Lt4) H wn rfl (ih fv Gi xs J Jx _ _ _ j4 l[k].rows[rk].cells[ck].flow l[k].rows[rk].cells[ck].id false note (t+1) _ (fun b o h=>uU b o (hGi b o h)) hcb qy hJx qz.now (Hp.owns (Li:=[_,_,_,_]) H.hp) (hcf.mono uU) (by omega) (by omega) (by omega) qz.part) rfl ?_;clear H;rintro v69 G69 aai a w ⟨b69,rfl,hb5,hb6⟩ atY H;refine kH H (Rn rfl (Kz kN (Cd rfl ?_ ?_))) <;> clear H kN
     ·intro vN a H
      try have p70:=dT vN
      refine kP H (SR fun _ kQ=>aj kQ rfl ?_);clear H kQ;intro a H;refine lr H results202 rfl ?_
      exact O9
     intro vN a H
     try have p70:=dF vN
     refine kP H (Kc jH (SC (Rd rfl (Rm rfl ?_))));clear H jH;intro a H;refine aD ?_;refine dG ((ck+1,j4+((lN note (t+1) l[k].rows[rk].cells[ck].flow).length+1),aai,G69)) (by exact (H.eD (Pl:=[_,_,_,_]) (dN:=[_,_,_]) [1,2,3] (by decide) rfl).sub ⟨rfl,rfl,rfl,rfl,rfl,rfl,rfl,rfl,rfl,rfl,rfl,aB⟩) ?_
     (try dsimp only);exact ⟨by omega,fun b o h=>atY b o (uU b o h),qz.jump (hb5 (by simpa using vN))⟩
    intro nW a H
    try have p55:=dF nW
    refine dP ?_;refine fM _ _ ?_;clear fM;refine kP H (SC (Rd rfl (Rm rfl ?_)));clear H;intro a H;refine aD ?_;refine dG ((rk+1,j4,Lt4,g4)) (by exact (H.eD (Pl:=[_,_,_]) (dN:=[_,_]) [1,2] (by decide) rfl).sub ⟨rfl,rfl,rfl,rfl,rfl,rfl,rfl,rfl,aB⟩) ?_
    (try dsimp only);exact ⟨by omega,uU,by rw [pJ (by omega),uz,jR] at qz;exact qz⟩
   intro h48 a H
   try have p48:=dF h48
   refine dP ?_;refine K9 _ _ ?_;clear K9;refine kP H (SC (Rd rfl (Rm rfl ?_)));clear H;intro a H;refine aD ?_;refine dG ((k+1,j3,Lt3,g3)) (by exact (H.eD (Pl:=[_,_]) (dN:=[_]) [1] (by decide) rfl).sub ⟨rfl,rfl,rfl,rfl,rfl,aB⟩) ?_
   (try dsimp only);exact ⟨by omega,qR,by rw [pJ (by omega),tJ,jR] at rY;exact rY⟩
  intro jM a H
  try have p42:=dF jM
  refine kP H (Kc K9 (SC (Rd rfl (Rm rfl ?_))));clear H K9;intro a H;refine aD ?_;refine dG ((k+1,j1,Lt,g)) (by exact (H.eD (Pl:=[_,_]) (dN:=[_]) [1] (by decide) rfl).sub ⟨rfl,rfl,rfl,rfl,rfl,aB⟩) ?_
  (try dsimp only);exact ⟨by omega,hgm,by rw [av p30,av p42,jR] at fI;exact fI⟩
 intro iy a H
 try have p25:=dF iy
 refine dP ?_;refine K5 _ _ ?_;clear K5;refine kP H (SR fun _ jh=>aj jh rfl ?_);clear H jh;intro a H;refine lr H results202 rfl ?_
 exact O9
theorem akB:∀ n:Nat,n<=4294967297->TU n
 | 0,_=>fun _ _ _ _ _ _ _ _ _ _ _ _ _ _ _ _ _ _ _ _ _ _ h=>absurd h (by omega)
 | n+1,hn=>aBh (akB n (by omega)) (by omega)
def lY (l:List ak):List mq:=⟨0,l,true,false,0⟩ :: lN false 0 l
theorem arH {G:GH} {ba bl bp:Nat} {l:List ak} {v:ah} {id t:Int} {body note:Bool} (h1:aH G ba 0=some (vi id)) (h2:aH G bl 0=some v) (h3:G bp=some (.cells #[.bool body,.bool note,vi t] 129 (0,0))) (hv:au G (.sl 11 (l.map ak.dat)) v) (hz:bO l<=4294967296) (ht0:0<=t) (ht1:t+bO l<=4294967296) :
  Iter prog G (.func (.func 201) #[] #[(aJ ba 0),(aJ bl 0),(aJ bp 0)]) ((⟨id,l,body,note,t⟩ :: lN note t l).map DC):=by
 intro J Jx fv G1 L w0 J9 hGi qy hJx hJ hO hcb;refine jJ (caps:=[(aJ ba 0),(aJ bl 0),(aJ bp 0)]) aeI ?_;replace h1:=aF hGi h1;replace h2:=aF hGi h2
 have hrow:∀ j u,[.bool body,.bool note,vi t][j]?=some u->aH G1 bp (0+j)=some u:=by
  intro j u hj;refine aF hGi ?_
  unfold aH;rw [h3];simpa using hj
 refine jc (N:=10) (T:=[(0,_),(1,_),(2,_),(3,_)]) func201 rfl ntmps201 rfl rfl hO ?_;intro a H;refine kP H (SC (Rg aC rfl (by assumption) ?_));clear H;intro a H;refine kH H (Rg kC rfl (by assumption) ?_);clear H;intro a H;refine bP SF (cs:=[_,_,_]) H wn rfl rfl (fun j v hj=>H.hp.aH (hrow j v hj)) rfl ?_;clear H;intro a H;refine kH H (Rm rfl ?_);clear H;intro a H;refine gy Vv (Li:=[]) (L:=L) H wn rfl (akB 4294967297 (by omega) _ G1 _ J Jx G1 _ _ 0 l id body note t _ (fun _ _ h=>h) hcb qy hJx hJ (Hp.owns (Li:=[]) H.hp) (hv.mono hGi) (by omega) ht0 ht1 (fun i a h=>by rw [gI,qL,h];rfl)) rfl ?_;clear H;rintro v9 G9 L9 a w ⟨b9,rfl,h1,h2⟩ yS H;refine aD ?_;refine (leave0 H results201 ?_).2
 cases b9
 ·exact H.hp.fQ (.inr (h2 rfl))
 exact H.hp.fQ (.inl (by simpa using h1 rfl))
theorem arI (G:GH) (w0:World) (hG:Hold G w0) (l:List ak) (v:ah) (id t:Int) (body note:Bool) (hv:au G (.sl 11 (l.map ak.dat)) v) (hz:bO l<=4294967296) (ht0:0<=t) (ht1:t+bO l<=4294967296) :
  Calls prog 139 #[vi id,v,.agg #[.bool body,.bool note,vi t]] w0 (bK w0 G fun u G'=>∃ ba bl bp,u=.func (.func 201) #[] #[(aJ ba 0),(aJ bl 0),(aJ bp 0)]∧Iter prog G' u ((⟨id,l,body,note,t⟩ :: lN note t l).map DC)):=by
 obtain ⟨A,c,rfl,hc1,hc2,hg⟩:=hv.slice;refine eN [(0,_),(1,_),(2,_)] func139 rfl ntmps139 rfl rfl hG ?_;intro a H;refine cO (fun _ K1=>?_);refine dW (cs:=[_]) H wn rfl rfl rfl ?_;clear H;intro b3 a w hb3 H;refine dW (cs:=[_]) H wn rfl rfl rfl ?_;clear H;intro b4 a w hb4 H;refine dW (cs:=[_,_,_]) H wn rfl rfl rfl ?_;clear H;intro b5 a w hb5 H;refine kH H (aj K1 rfl (SR fun _ K2=>?_));clear H K1;intro a H;refine rM H wn rfl rfl ?_;clear H;intro a H;refine kH H (aj K2 rfl ?_);clear H K2;intro a H;refine eO ?_;obtain ⟨G2,hm2,hb5,H⟩:=H.fB;obtain ⟨G3,vP,hb4,H⟩:=H.fB;obtain ⟨G4,Bb,hb3,H⟩:=H.fB;refine lv H results139 rfl ?_;exact H.rt ⟨b3,b4,b5,rfl,arH (by unfold aH;rw [hb3];rfl) (aF Bb (by unfold aH;rw [hb4];rfl)) (Bb _ _ (vP _ _ hb5)) (hv.mono fun b o h=>Bb _ _ (vP _ _ (hm2 _ _ h))) hz ht0 ht1⟩
theorem axc (G:GH) (w0:World) (hG:Hold G w0) (D:jO) (l:List ak) (hv:au G (.sl 11 (l.map ak.dat)) (cB D.f)) (hz:bO l<=4294967296) :
  Calls prog 79 #[D.val] w0 (bK w0 G fun u G'=>∃ ba bl bp,u=.func (.func 201) #[] #[(aJ ba 0),(aJ bl 0),(aJ bp 0)]∧Iter prog G' u ((lY l).map DC)):=by
 refine eN [(0,_)] func79 rfl ntmps79 rfl rfl hG ?_;intro a H;refine cO (fun _ K1=>?_);refine dW (cs:=[_,_,_,_,_,_,_,_,_,_,_]) H wn rfl rfl rfl ?_;clear H;intro b1 a w hb1 H;refine kH H (aj K1 rfl (SR fun _ K2=>bq vJ kC 0 rfl rfl ?_));clear H K1;intro a H;refine jD FI [_,_,_] H wn rfl rfl rfl rfl ?_;clear H;intro a H;refine s_call aoH H wn rfl (arI _ _ H.ro l _ 0 0 true false hv hz (by omega) (by omega)) rfl ?_;clear H;rintro v6 G6 a w ⟨ba,bl,bp,rfl,hit⟩ Cz H;exact kH H (aj K2 rfl (LR results79 rfl fun H=>H.rt ⟨ba,bl,bp,rfl,hit⟩))
theorem jf:Ty prog 38 11 232 [.slice none 0 0,.slice none 0 0,.int .i64 0,.int .i64 0,.slice none 0 0,.slice none 0 0,.slice none 0 0,.slice none 0 0,.slice none 0 0,.slice none 0 0,.slice none 0 0] true:=⟨by kernel_rfl,by kernel_rfl⟩
theorem aqC:aQ 79:=aR func79 rfl
theorem ajW:Ty prog 146 4 40 [.slice none 0 0,.bool false,.bool false,.int .i64 0] true:=⟨by kernel_rfl,by kernel_rfl⟩
theorem arh:dH prog 146 0 0:=⟨by kernel_rfl⟩
mutual
theorem aBd {note:Bool} {t:Int} {f:mq}:∀ {x:ak},f∈BJ note t x->bO f.items < bV x.dat
 | .mk k c i tx h fl r,hf=>by
  have h4:=wY (.mk k c i tx h fl r)
  simp only [ak.text,ak.head,ak.flow,ak.rows] at h4
  rw [BJ] at hf
  split at hf
  ·rcases fV.1 hf with rfl|hf
   ·show bO fl < _;omega
   have:=SY hf;omega
  split at hf
  ·have:=akA hf;omega
  cases hf
theorem SY {note:Bool} {t:Int} {f:mq}:∀ {l:List ak},f∈lN note t l->bO f.items<=bO l
 | [],hf=>by simp [lN] at hf
 | x :: l,hf=>by
  rw [lN] at hf
  simp only [bO,eZ,dU]
  rcases jA.1 hf with hf|hf
  ·have:=aBd hf;simp only [bO] at this;omega
  have:=SY hf;simp only [bO] at this;omega
theorem akA {note:Bool} {t:Int} {f:mq}:∀ {l:List aS},f∈tJ note t l->bO f.items<=gJ l
 | [],hf=>by simp [tJ] at hf
 | x :: l,hf=>by
  rw [tJ] at hf
  simp only [gJ,eZ,dU]
  rcases jA.1 hf with hf|hf
  ·have:=aBg hf;simp only [bO] at *;omega
  have:=akA hf;simp only [bO,gJ] at *;omega
theorem aBg {note:Bool} {t:Int} {f:mq}:∀ {x:aS},f∈BK note t x->bO f.items<=bV x.dat
 | .mk h cs,hf=>by
  have h4:=Ai (.mk h cs)
  simp only [aS.head,aS.cells] at h4
  rw [BK] at hf;have:=akw hf;omega
theorem akw {note:Bool} {t:Int} {f:mq}:∀ {l:List aV},f∈uz note t l->bO f.items<=iA l
 | [],hf=>by simp [uz] at hf
 | x :: l,hf=>by
  rw [uz] at hf
  simp only [iA,eZ,dU]
  rcases jA.1 hf with hf|hf
  ·have:=aA7 hf;simp only [bO] at *;omega
  have:=akw hf;simp only [bO,iA] at *;omega
theorem aA7 {note:Bool} {t:Int} {f:mq}:∀ {x:aV},f∈BI note t x->bO f.items<=bV x.dat
 | .mk i h fl,hf=>by
  have h4:=Ah (.mk i h fl)
  simp only [aV.head,aV.flow] at h4
  rw [BI] at hf
  rcases fV.1 hf with rfl|hf
  ·show bO fl<=_;omega
  have:=SY hf;omega
end
theorem afD {f:mq} {l:List ak} (h:f∈lY l):bO f.items<=bO l:=by
 rcases fV.1 h with rfl|h
 ·exact eu _
 exact SY h
theorem afA {A:List mq} {k:Nat} {args:List ah} {g:GH} (h:wZ (A.map DC) k args g):∃ (hk:k < A.length) (a:Option Addr) (n c:Nat),args=[vi A[k].id,.agg #[.slice a n c,.bool A[k].body,.bool A[k].note,vi A[k].tables]]∧au g (.sl 11 (A[k].items.map ak.dat)) (.slice a n c):=by
 obtain ⟨p,hp,hargs⟩:=h;rw [qL] at hp;obtain ⟨q,hq,rfl⟩:=pF.1 hp;obtain ⟨hk,rfl⟩:=jQ.1 hq;obtain ⟨v,h1,h2⟩:=hargs;obtain ⟨a,n,c,rfl⟩:=h2.form;exact ⟨hk,a,n,c,h1,h2⟩
theorem ahz {α:Type} {p:α->Bool} {A:List α} {k:Nat} (hk:k < A.length) (h:(A.take k).findIdx? p=none) (hp:p A[k]=false):(A.take (k+1)).findIdx? p=none:=by
 rw [List.findIdx?_eq_none_iff] at h |-;rw [kg hk];intro x hx
 rcases jA.1 hx with hx|hx
 ·exact h x hx
 rw [pG.1 hx];exact hp
theorem XL {α:Type} {p:α->Bool} {A:List α} {k:Nat} (hk:k < A.length) (h:(A.take k).findIdx? p=none) (hp:p A[k]=true):A.findIdx? p=some k:=by
 have e:A.findIdx? p=(A.take k++A.drop k).findIdx? p:=by rw [List.take_append_drop]
 rw [e,List.findIdx?_append,h,oF hk,List.findIdx?_cons,hp]
 simp;omega

theorem apd:aQ 171:=aR func171 rfl
def uG (fv:ah) (G:GH) (d:List Dat) (b:Bool):Prop:=∀ (G1:GH) (w1:World) (cs:List ah),(∀ b o,G b=some o->G1 b=some o)->Hold G1 w1->aY G1 d cs ->
 tL prog fv [.agg cs.toArray] w1 (bK w1 G1 fun u G'=>u=.bool b)
def nY (o:Option Nat):Int:=match o with|some i=>i|none=>-1
theorem Aq {p:Prop} (h:p:=by
 exact ⟨by omega,rfl,fun _ _ h=>h⟩):p:=h
theorem xE {p:Prop} (h:p:=by
 first
  | exact H.rt (by rw [XL hk2 hno h16];rfl)
  | exact H.rt (by rw [show l.take k=l from nU (by omega)] at hno;rw [hno];rfl)):p:=h
theorem Ua {p:Prop} (h:p:=by
 exact ⟨by omega,ahz hk2 hno h16,fun b o h=>uh b o (hgm b o h)⟩):p:=h
theorem JG {p:Prop} (h:p:=by
 intro h16
 try have p16:=dF h16
 refine kP H (Kc K6 (SC (Rd rfl (Rm rfl ?_))));clear H K6;intro a H;refine aD ?_;refine dG ((k+1,uD)) (by exact H.sub ⟨rfl,rfl,rfl,rfl,aB⟩) ?_
 (try dsimp only);exact Ua):p:=h
theorem avx (G:GH) (w0:World) (hG:Hold G w0) (l:List aS) (p:aS->Bool) (v fv:ah) (hv:au G (.sl 6 (l.map aS.dat)) v) (hf:∀ x∈l,uG fv G x.dat (p x)) :
  Calls prog 171 #[v,fv] w0 (bK w0 G fun u G'=>u=vi (nY (l.findIdx? p))):=by
 obtain ⟨A,c,rfl,hc1,hc2,hg⟩:=hv.slice;have hml:maxLen=9223372036854775807:=rfl;rw [bQ] at *;refine eN [(0,_),(1,_)] func171 rfl ntmps171 rfl rfl hG ?_;intro a H;refine kP H (SR fun _ K1=>aj K1 rfl (SQ fun _ K2=>SR fun _ K3=>Rm rfl (Rl nP rfl (Rm rfl (Kz K3 (SB ?_))))));clear H K1 K3;intro a H;skip;refine eX (ι:=Nat × GH) (Tc:=[(0,_),(1,_),(7,_)]) (Lc:=[]) (fun gh=>[(8,vi gh.1)]) (fun gh=>[]) (fun gh=>gh.2) (fun gh=>gh.1<=l.length∧(l.take gh.1).findIdx? p=none∧(∀ b o,G b=some o->gh.2 b=some o)) (fun gh=>l.length - gh.1) ((0,G)) (by exact H.sub ⟨rfl,rfl,rfl,rfl,aB⟩) ?_ ?_
 ·exact Aq
 clear H;rintro ⟨k,g⟩ a w hI H;dsimp only at hI H;obtain ⟨hk,hno,hgm⟩:=hI;dsimp only [lca,bJ] at H;refine kP H (SR fun _ K4=>Rc rfl (Kz K4 (SQ fun _ K5=>Cd rfl ?_ ?_))) <;> clear H K4
 ·intro h9 a H
  try have p9:=dT h9
  have hk2:k < l.length:=by omega
  obtain ⟨b,o,cs,rfl,hcl,hrow,hrep⟩:=hg k l[k].dat (by simp [hk2]);obtain ⟨pA,pn,pc,dA,dn,dc,yA,yn,yc,fA,fn,fc,rfl,-⟩:=hrep.row;replace hrow:=fun j u hj=>aF hgm (hrow j u hj);refine kP H (Kc K5 (SQ fun _ K6=>SB (SR fun _ K7=>Rm rfl (aj K7 rfl (SR fun _ K8=>Rm rfl (Rm rfl (Rm rfl (Ri nP jV rfl rfl ?_))))))));clear H K5 K7;intro a H;refine bP jV (cs:=[_,_,_,_,_,_]) H wn rfl rfl (fun j v hj=>H.hp.aH (hrow j v hj)) rfl ?_;clear H;intro a H;refine kX H wn rfl rfl (hf _ (jB hk2) _ _ _ hgm H.ro (hrep.mono hgm)) rfl ?_;clear H;rintro v16 uD a w rfl uh H;refine K8 _ _ ?_;clear K8;refine jS H rfl ?_ ?_
  ·intro h16
   try have p16:=dT h16
   refine kP H (SR fun _ K9=>Rm rfl (aj K9 rfl ?_));clear H K9;intro a H;refine lr H results171 rfl ?_
   exact xE
  exact JG
 intro h9 a H
 try have p9:=dF h9
 refine dP ?_;refine K2 _ _ ?_;clear K2;refine kP H (SR fun _ aW=>aj aW rfl ?_);clear H aW;intro a H;refine lr H results171 rfl ?_
 exact xE
def mP (p:Nat->Bool):Nat->Nat->Nat->Nat
 | 0,i,_=>i
 | f+1,i,j=>if i < j then (if p ((i+j) / 2) then mP p f i ((i+j) / 2) else mP p f ((i+j) / 2+1) j) else i
theorem XD {p:Nat->Bool} {f i j:Nat} (hf:j - i<=f) (h:i < j):mP p f i j=if p ((i+j) / 2) then mP p (f - 1) i ((i+j) / 2) else mP p (f - 1) ((i+j) / 2+1) j:=by
 match f,hf with
 | 0,hf=>omega
 | f+1,_=>rw [mP,aG h];rfl
theorem XA {p:Nat->Bool} {f i j:Nat} (h:¬ i < j):mP p f i j=i:=by
 match f with
 | 0=>rfl
 | f+1=>rw [mP,av h]
theorem QU {p:Nat->Bool}:∀ (f i j:Nat),i<=j->mP p f i j<=j
 | 0,i,j,h=>h
 | f+1,i,j,h=>by
  rw [mP]
  split
  ·split
   ·exact Nat.le_trans (QU f i _ (by omega)) (by omega)
   ·exact QU f _ j (by omega)
  ·exact h
theorem XE {z:Int} (h1:0<=z) (h2:z < 18446744073709551616):IntKind.u64.wrap z=z:=by
 simp only [IntKind.wrap,IntKind.bits,IntKind.signed,LX,Gj,if_false]
 omega
theorem XB (n:Nat):((n:Nat):Int).fdiv (2 ^ 1)=((n / 2:Nat):Int):=by
 rw [Int.fdiv_eq_ediv_of_nonneg _ (by decide)];omega
def Cm (a b:Int):Int:=if a < b then -1 else if b < a then 1 else 0
theorem adK {a b:Int}:Cm a b < 0↔a < b:=by
 unfold Cm
 split
 ·simp [*]
 ·split <;> simp_all
theorem adJ {a b:Int}:Cm a b=0↔a=b:=by
 unfold Cm
 split
 ·omega
 ·split <;> omega
def gM (ks:List Int) (t:Int):Nat:=mP (fun h=>decide (¬ ks.getD h 0 < t)) ks.length 0 ks.length
def oI (ks:List Int) (t:Int):Bool:=decide (ks[gM ks t]?=some t)
theorem GN (ks:List Int) (t:Int):gM ks t<=ks.length:=QU _ _ _ (kE _)
theorem Qn {ks:List Int} {t:Int} (h:oI ks t=true):gM ks t < ks.length:=by
 have:=pI h
 exact (jQ.1 this).1
theorem agc {ks:List Int} {t:Int} {n:Nat} (e:gM ks t=n) (h:n < ks.length):oI ks t=decide (Cm ks[n] t=0):=by
 unfold oI
 rw [e,dV h]
 simp [adJ]
theorem agd {ks:List Int} {t:Int} {n:Nat} (e:gM ks t=n) (h:¬ n < ks.length):oI ks t=false:=by
 unfold oI
 rw [e,List.getElem?_eq_none (by omega)]
 simp
theorem getD_map {α:Type} {f:α->Int} {l:List α} {n:Nat} (h:n < l.length):(l.map f).getD n 0=f l[n]:=by
 simp [List.getD,h]
theorem Og:prog.underlying 322=some (.slice 296):=by kernel_rfl
theorem vY:Ty prog 296 6 56 [.int .i64 0,.int .i64 0,.int .i64 0,.int .i64 0,.int .i64 0,.string ⟨#[]⟩] true:=⟨by kernel_rfl,by kernel_rfl⟩
theorem ajG:qK prog 296 [(0,1),(1,1),(2,1),(3,1),(4,1),(5,1)] [.int .i64 0,.int .i64 0,.int .i64 0,.int .i64 0,.int .i64 0,.string ⟨#[]⟩]:=⟨by kernel_rfl,by kernel_rfl⟩
theorem Vs:aQ 174:=aR func174 rfl
structure kR where
 num:Int
 JY:Int
 low:Int
 high:Int
 std:Int
 name:ByteArray
def kR.dat (x:kR):List Dat:=[li x.num,li x.JY,li x.low,li x.high,li x.std,.lf (.string x.name)]
def kR.cells (x:kR):List ah:=[vi x.num,vi x.JY,vi x.low,vi x.high,vi x.std,.string x.name]
def aL.cells (x:aL):List ah:=[vi x.key,vi x.value]
theorem avO (G:GH) (x:kR):aY G x.dat x.cells:=by
 simp only [kR.dat,kR.cells,aY]
 exact ⟨_,_,rfl,by simp [au,Value.oneCell'],_,_,rfl,by simp [au,Value.oneCell'],_,_,rfl,by simp [au,Value.oneCell'],_,_,rfl,by simp [au,Value.oneCell'],_,_,rfl,by simp [au,Value.oneCell'],_,_,rfl,by simp [au,Value.oneCell'],rfl⟩
theorem avN {G:GH} {x:kR} {cs:List ah} (h:aY G x.dat cs):cs=x.cells:=by
 simp only [kR.dat,aY,au] at h
 obtain ⟨v1,_,rfl,⟨rfl,-⟩,v2,_,rfl,⟨rfl,-⟩,v3,_,rfl,⟨rfl,-⟩,v4,_,rfl,⟨rfl,-⟩,v5,_,rfl,⟨rfl,-⟩,v6,_,rfl,⟨rfl,-⟩,rfl⟩:=h
 rfl
theorem axI (G:GH) (x:aL):aY G x.dat x.cells:=by
 simp only [aL.dat,aL.cells,aY]
 exact ⟨_,_,rfl,by simp [au,Value.oneCell'],_,_,rfl,by simp [au,Value.oneCell'],rfl⟩
theorem RJ {G:GH} {x:aL} {cs:List ah} (h:aY G x.dat cs):cs=x.cells:=by
 simp only [aL.dat,aY,au] at h
 obtain ⟨v1,_,rfl,⟨rfl,-⟩,v2,_,rfl,⟨rfl,-⟩,rfl⟩:=h
 rfl
theorem ahN (G:GH):∀ (B A:List kR),bZ G 6 (A.map kR.dat) (A.map kR.cells).flatten->bZ G 6 ((A++B).map kR.dat) ((A++B).map kR.cells).flatten
 | [],A,h=>by rw [ig];exact h
 | x :: B,A,h=>by
  have h2:=h.snoc (avO G x) rfl;have h3:=ahN G B (A++[x]) (by simpa using h2)
  simpa using h3
theorem avP (G:GH) (A:List kR):bZ G 6 (A.map kR.dat) (A.map kR.cells).flatten:=ahN G A [] bZ.nil
theorem Gp {p:Prop} (h:p:=by
 exact ⟨b,o,h1,h3⟩):p:=h
theorem XQ {G:GH} {l:List kR} {A:Option Addr} {n c k:Nat} (hv:au G (.sl 6 (l.map kR.dat)) (.slice A n c)) (hk:k < l.length):∃ b o,A=some ⟨b,o,none⟩∧(∀ j u,[vi l[k].num,vi l[k].JY,vi l[k].low,vi l[k].high,vi l[k].std,.string l[k].name][j]?=some u->aH G b (o+k*6+j)=some u):=by
 obtain ⟨A',c',he,_,_,hg⟩:=hv.slice
 injection he with e1 e2 e3
 subst e1;obtain ⟨b,o,cs,h1,h2,h3,h4⟩:=hg k l[k].dat (by simp [hk]);obtain rfl:=avN h4;exact Gp
theorem aiM (G:GH):∀ (B A:List aL),bZ G 2 (A.map aL.dat) (A.map aL.cells).flatten->bZ G 2 ((A++B).map aL.dat) ((A++B).map aL.cells).flatten
 | [],A,h=>by rw [ig];exact h
 | x :: B,A,h=>by
  have h2:=h.snoc (axI G x) rfl;have h3:=aiM G B (A++[x]) (by simpa using h2)
  simpa using h3
theorem RL (G:GH) (A:List aL):bZ G 2 (A.map aL.dat) (A.map aL.cells).flatten:=aiM G A [] bZ.nil
theorem IG {G:GH} {l:List aL} {A:Option Addr} {n c k:Nat} (hv:au G (.sl 2 (l.map aL.dat)) (.slice A n c)) (hk:k < l.length):∃ b o,A=some ⟨b,o,none⟩∧(∀ j u,[vi l[k].key,vi l[k].value][j]?=some u->aH G b (o+k*2+j)=some u):=by
 obtain ⟨A',c',he,_,_,hg⟩:=hv.slice
 injection he with e1 e2 e3
 subst e1;obtain ⟨b,o,cs,h1,h2,h3,h4⟩:=hg k l[k].dat (by simp [hk]);obtain rfl:=RJ h4;exact Gp
def Iq:List kR:=[⟨1,1,0,1073741824,0,⟨#[99,104,97,114,97,99,116,101,114,45,115,116,121,108,101]⟩⟩,⟨2,1,0,1,0,⟨#[98,111,108,100]⟩⟩,⟨3,1,0,1,0,⟨#[105,116,97,108,105,99]⟩⟩,⟨4,1,0,3,0,⟨#[117,110,100,101,114,108,105,110,101]⟩⟩,⟨5,1,2,1638,22,⟨#[115,105,122,101]⟩⟩,⟨6,1,0,16777215,0,⟨#[99,111,108,111,114]⟩⟩,⟨7,1,0,63,0,⟨#[102,111,110,116]⟩⟩,⟨8,1,0,255,0,⟨#[108,97,110,103,117,97,103,101]⟩⟩,⟨9,1,-400,400,0,⟨#[114,97,105,115,101]⟩⟩,⟨10,1,0,1,0,⟨#[104,105,100,100,101,110]⟩⟩,⟨20,2,0,1073741824,0,⟨#[112,97,114,97,103,114,97,112,104,45,115,116,121,108,101]⟩⟩,⟨21,2,0,3,0,⟨#[97,108,105,103,110]⟩⟩,⟨22,2,-31680,31680,0,⟨#[108,101,102,116]⟩⟩,⟨23,2,-31680,31680,0,⟨#[114,105,103,104,116]⟩⟩,⟨24,2,-31680,31680,0,⟨#[102,105,114,115,116]⟩⟩,⟨25,2,0,31680,0,⟨#[98,101,102,111,114,101]⟩⟩,⟨26,2,0,31680,0,⟨#[97,102,116,101,114]⟩⟩,⟨27,2,0,31680,0,⟨#[108,101,97,100,105,110,103]⟩⟩,⟨28,2,0,1,0,⟨#[107,101,101,112,45,110,101,120,116]⟩⟩,⟨29,2,0,1,0,⟨#[107,101,101,112,45,108,105,110,101,115]⟩⟩,⟨30,2,0,1,1,⟨#[119,105,100,111,119]⟩⟩,⟨31,2,0,1,0,⟨#[112,97,103,101,45,98,101,102,111,114,101]⟩⟩,⟨32,2,0,9,0,⟨#[111,117,116,108,105,110,101]⟩⟩,⟨33,2,0,1073741824,0,⟨#[108,105,115,116]⟩⟩,⟨34,2,1,9,1,⟨#[108,101,118,101,108]⟩⟩,⟨35,2,0,32767,0,⟨#[114,101,115,116,97,114,116]⟩⟩,⟨36,2,1,31680,720,⟨#[116,97,98,45,115,116,111,112]⟩⟩,⟨37,2,0,1,0,⟨#[104,121,112,104,101,110,97,116,101]⟩⟩,⟨40,3,720,31680,12240,⟨#[112,97,103,101,45,119,105,100,116,104]⟩⟩,⟨41,3,720,31680,15840,⟨#[112,97,103,101,45,104,101,105,103,104,116]⟩⟩,⟨42,3,0,31680,1440,⟨#[116,111,112]⟩⟩,⟨43,3,0,31680,1440,⟨#[98,111,116,116,111,109]⟩⟩,⟨44,3,0,31680,1440,⟨#[105,110,110,101,114]⟩⟩,⟨45,3,0,31680,1440,⟨#[111,117,116,101,114]⟩⟩,⟨46,3,0,32767,0,⟨#[102,105,114,115,116,45,112,97,103,101]⟩⟩,⟨47,3,1,6,1,⟨#[112,97,103,101,45,102,111,114,109,97,116]⟩⟩,⟨50,4,0,1,0,⟨#[104,101,97,100,101,114]⟩⟩,⟨51,4,0,1,0,⟨#[99,97,110,116,45,115,112,108,105,116]⟩⟩,⟨52,4,0,31680,0,⟨#[114,111,119,45,104,101,105,103,104,116]⟩⟩,⟨60,5,1,32,1,⟨#[99,111,108,117,109,110,45,115,112,97,110]⟩⟩,⟨61,5,0,2,0,⟨#[118,101,114,116,105,99,97,108,45,109,101,114,103,101]⟩⟩,⟨62,5,0,31680,0,⟨#[99,101,108,108,45,119,105,100,116,104]⟩⟩,⟨63,5,0,16777215,16777215,⟨#[115,104,97,100,101]⟩⟩,⟨70,6,0,31680,0,⟨#[116,97,98,108,101,45,119,105,100,116,104]⟩⟩,⟨71,6,0,2,0,⟨#[116,97,98,108,101,45,97,108,105,103,110]⟩⟩]
set_option maxRecDepth 20000 in
theorem avQ (G:GH) (w0:World) (hG:Hold G w0):Calls prog 250 #[] w0 (bK w0 G fun u G'=>au G' (.sl 6 (Iq.map kR.dat)) u):=by
 refine eN [] func250 rfl ntmps250 rfl rfl hG ?_;intro a H;refine kP H (SR fun _ K1=>aj K1 rfl (SR fun _ K2=>?_));clear H K1;intro a H;(iterate 45 refine jD ajG [_,_,_,_,_,_] H wn rfl rfl rfl rfl ?_;clear H;intro a H);refine azc Og vY (Iq.map kR.cells) H wn rfl rfl rfl rfl rfl rfl rfl ?_;clear H;intro b46 a w aBZ H;refine kH H (aj K2 rfl ?_);clear H K2;intro a H;refine lr H results250 rfl ?_;obtain ⟨Gz,hmz,hbz,H⟩:=H.fB;exact H.rt (au.vV (n:=45) (cap:=45) hbz rfl (eu _) (show 45<=maxLen by decide) (nU (eu _)) (avP _ _))
theorem XM (G:GH) (w0:World) (hG:Hold G w0) (x:Int):Calls prog 174 #[vi x] w0 (bK w0 G fun u G'=>u=.bool false∧G=G'):=by
 refine eN [(0,_)] func174 rfl ntmps174 rfl rfl hG ?_;intro a H;exact kP H (SR fun _ K1=>aj K1 rfl (SR fun _ K2=>Rm rfl (Rm rfl (Rc rfl (aj K2 rfl (LR results174 rfl fun H=>H.rt ⟨by simp,rfl⟩))))))
theorem Vf {x y z:Int} (h:(x < y∧z=-1)∨(y < x∧z=1)∨(x=y∧z=0)):z=Cm x y:=by
 unfold Cm;split
 ·omega
 split <;> omega
theorem adO (G:GH) (w0:World) (hG:Hold G w0) (x y:Int):Calls prog 253 #[vi x,vi y] w0 (bK w0 G fun u G'=>u=vi (Cm x y)):=by
 refine eN [(0,_),(1,_)] func253 rfl ntmps253 rfl rfl hG ?_;intro a H;refine kP H (SR fun _ K1=>aj K1 rfl (SR fun _ K2=>Rm rfl ?_));clear H K1;intro a H;refine s_call Vs H wn rfl (XM _ _ H.ro x) rfl ?_;clear H;rintro v8 G8 a w ⟨rfl,-⟩ rH H;refine kH H (aj K2 rfl (SR fun _ K3=>Rm rfl ?_));clear H K2;intro a H;refine s_call Vs H wn rfl (XM _ _ H.ro y) rfl ?_;clear H;rintro v10 Ev a w ⟨rfl,-⟩ DV H;refine kH H (aj K3 rfl (SQ fun _ K4=>SR fun _ K5=>Rm rfl (Kz K5 (Cd rfl ?_ ?_)))) <;> clear H K3 K5
 ·intro h11 a H
  cases h11
 intro h11 a H
 try have sj:=dF h11
 refine kP H (Kc K4 (SQ fun _ K6=>SR fun _ K7=>Rm rfl (Kz K7 (Cd rfl ?_ ?_)))) <;> clear H K4 K7
 ·intro gQ a H
  cases gQ
 intro gQ a H
 try have sw:=dF gQ
 refine kP H (Kc K6 (SQ fun _ K8=>SR fun _ K9=>Rm rfl (Rm rfl (Rc rfl (Kz K9 (Cd rfl ?_ ?_)))))) <;> clear H K6 K9
 ·intro h16 a H
  try have p16:=dT h16
  exact kP H (SR fun _ aW=>aj aW rfl (LR results253 rfl fun H=>H.rt (dh vi (Vf (by omega)))))
 intro h16 a H
 try have p16:=dF h16
 refine kP H (Kc K8 (SQ fun _ bM=>SR fun _ bU=>Rm rfl (Rm rfl (Rc rfl (Kz bU (Cd rfl ?_ ?_)))))) <;> clear H K8 bU
 ·intro h19 a H
  try have tC:=dT h19
  exact kP H (SR fun _ bY=>aj bY rfl (LR results253 rfl fun H=>H.rt (dh vi (Vf (by omega)))))
 intro h19 a H
 try have tC:=dF h19
 exact kP H (Kc bM (SR fun _ cZ=>aj cZ rfl (LR results253 rfl fun H=>H.rt (dh vi (Vf (by omega))))))
def mF (l:List aL):List ah:=(l.map aL.cells).flatten
theorem Vk:∀ l:List aL,(mF l).length=l.length*2
 | []=>rfl
 | p :: l=>by
  have:=Vk l
  simp only [mF,eZ,List.flatten_cons,iw] at this |-
  rw [this,show p.cells.length=2 from rfl,kS];omega
theorem MC (l m:List aL):mF (l++m)=mF l++mF m:=by simp [mF]
theorem axJ {G:GH} {l:List aL} {xs:List ah} (h:bZ G 2 (l.map aL.dat) xs):xs=mF l:=by
 obtain ⟨css,rfl,h2,h3⟩:=h;rw [bQ] at h2
 have e:css=l.map aL.cells:=by
  apply List.ext_getElem?
  intro j;rw [qL]
  by_cases hj:j < l.length
  ·have h4:=(h3 j l[j].dat css[j] (by simp [hj]) (dV (by omega))).1;rw [dV hj,dV (by omega),RJ h4];rfl
  rw [List.getElem?_eq_none (by omega),List.getElem?_eq_none (by omega)];rfl
 rw [e];rfl
theorem anB {G:GH} {w0:World} (hO:gH G [] w0) (l:List aL) (v:ah) (hv:au G (.sl 2 (l.map aL.dat)) v) (hz:l.length<=4294967296) :
  Calls prog 168 #[v] w0 (fU w0 G [] fun u G' L'=>cu 187 2 u l.length (mF l) L'):=by
 obtain ⟨A,c,rfl,_,_,-⟩:=hv.slice;obtain ⟨hn,hc1,hc2,hnil,hx⟩:=hv.cells;rw [bQ] at *;refine jc (N:=8) (T:=[(0,_)]) func168 rfl ntmps168 rfl rfl hO ?_;intro a H;refine kP H (SR fun _ K1=>aj K1 rfl (SQ fun _ K2=>SR fun _ K3=>Rm rfl ?_));clear H K1;intro a H;refine CW gT H wn rfl rfl ?_;clear H;intro a H;refine K3 _ _ ?_;clear K3;refine jS H rfl ?_ ?_
 ·intro h4
  refine kP H (SR fun _ K4=>aj K4 rfl ?_);clear H K4;intro a H;refine lr H results168 rfl ?_
  have e:l=[]:=by simpa using hnil (by simpa using h4)
  subst e;exact H.hp.fQ cu.nil
 intro h4
 try have p4:=dF h4
 refine iB ?_;refine K2 _ _ ?_;clear K2;refine bD (fun _ K5=>?_)
 have hA:¬ A=none:=by intro e;rw [e] at h4;cases h4
 refine nH ?_;refine Aa gT iq H wn rfl ?_;clear H;intro b5 a w hb5 H;refine kH H (Rm rfl ?_);clear H;intro a H
 by_cases hr0:l=[]
 ·subst hr0;refine Bt gT iq H wn rfl rfl (eu _) rfl ?_;clear H;intro a H;exact kH H (aX K5 rfl (LR results168 rfl fun H=>H.hp.fQ cu.empty))
 obtain ⟨b,o,xs,rfl,hxl,hxc,hx1,fG⟩:=hx (by simpa using hr0);obtain rfl:=axJ fG;refine oh (Li:=[]) (Lo:=[_]) (news:=mF l) gT iq rfl rfl H wn rfl rfl cu.empty hxl (fun j u hj=>H.hp.aH (hxc j u hj)) hx1 (by omega) (by omega) rfl ?_;clear H;intro v7 Lo a w hrow H;rw [gI,jR] at hrow;exact kH H (aX K5 rfl (LR results168 rfl fun H=>H.hp.fQ hrow))
theorem aiJ {G:GH} {w0:World} (hO:gH G [] w0) (l:List aL) (v:ah) (hv:au G (.sl 2 (l.map aL.dat)) v) (hz:l.length<=4294967296) :
  Calls prog 159 #[v] w0 (fU w0 G [] fun u G' L'=>cu 187 2 u l.length (mF l) L'):=by
 obtain ⟨A,c,rfl,_,_,-⟩:=hv.slice;rw [bQ] at *;refine jc (N:=5) (T:=[(0,_)]) func159 rfl ntmps159 rfl rfl hO ?_;intro a H;refine kP H (SR fun _ K1=>aj K1 rfl (SR fun _ K2=>Rm rfl ?_));clear H K1;intro a H;refine gy PX (Li:=[]) (L:=[]) H wn rfl (anB (Hp.owns (Li:=[]) H.hp) l _ hv hz) rfl ?_;clear H;rintro v4 G4 L4 a w hrw Bb H;dsimp only [List.nil_append] at H;obtain ⟨A4,c4,rfl,-,-⟩:=hrw.shape;exact kH H (aj K2 rfl (LR results159 rfl fun H=>H.hp.fQ hrw))
theorem ari:dH prog 296 0 0:=⟨by kernel_rfl⟩
theorem aeO:aQ 253:=aR func253 rfl
theorem Lg:prog.underlying 199=some (.int .u64):=by kernel_rfl
theorem xL:dH prog 187 0 0:=⟨by kernel_rfl⟩
theorem apY:aQ 252:=aR func252 rfl
theorem aqb:aQ 261:=aR func261 rfl
theorem adq (G:GH) (w0:World) (hG:Hold G w0) (x:kR) (t:Int):tL prog (.func (.func 252) #[] #[]) [.agg x.cells.toArray,vi t] w0 (bK w0 G fun u G'=>u=vi (Cm x.num t)):=by
 refine jJ (caps:=[]) apY ?_;refine eN [(0,_),(1,_)] func252 rfl ntmps252 rfl rfl hG ?_;intro a H;refine cO (fun _ K1=>?_);refine dW (cs:=[_,_,_,_,_,_]) H wn rfl rfl rfl ?_;clear H;intro b2 a w hb2 H;refine kH H (aj K1 rfl (SR fun _ K2=>bq ari aC 0 rfl rfl (Rm rfl ?_)));clear H K1;intro a H;refine s_call aeO H wn rfl (adO _ _ H.ro x.num t) rfl ?_;clear H;rintro v8 G8 a w rfl rH H;exact kH H (aj K2 rfl (LR results252 rfl fun H=>H.rt rfl))
theorem aay {p:Prop} (h:p:=by
 exact ⟨kE _,eu _,Nat.sub_le _ _,hbs.symm,fun _ _ h=>h⟩):p:=h
theorem alF {p:Prop} (h:p:=by
 exact ⟨by omega,hj,by omega,heq,fun b o h=>H8 b o (hgm b o h)⟩):p:=h
theorem alG {p:Prop} (h:p:=by
 exact ⟨by omega,by omega,by omega,heq,fun b o h=>H8 b o (hgm b o h)⟩):p:=h
theorem aaz {p:Prop} (h:p:=by
 exact H.rt (by rw [agc heq.symm (by rw [bQ];omega),<- heq];simp)):p:=h
theorem aaA {p:Prop} (h:p:=by
 exact H.rt (by rw [agd heq.symm (by rw [bQ];omega),<- heq])):p:=h
theorem acf {p:Prop} (h:p:=by
 clear H;rintro v30 FX a w rfl H8 H;refine kH H (Rc rfl (Kz K8 (Cd rfl ?_ ?_))) <;> clear H K8
 ·intro h31 a H
  try have p31:=dT h31
  rw [av (by simpa using adK.1 p31)] at heq;refine kP H (SC (Rm rfl (Rd rfl (Ra rfl ?_))));clear H;intro a H;refine aD ?_;refine dG ((m+1,j,f - 1,FX)) (by exact H.sub ⟨rfl,rfl,rfl,rfl,rfl,rfl,aB⟩) ?_
  (try dsimp only);exact alF
 intro h31 a H
 try have p31:=dF h31
 rw [aG (by simpa using fun h=>p31 (adK.2 h))] at heq;refine kP H (SC (Rm rfl (Ra rfl ?_)));clear H;intro a H;refine aD ?_;refine dG ((i,m,f - 1,FX)) (by exact H.sub ⟨rfl,rfl,rfl,rfl,rfl,rfl,aB⟩) ?_
 (try dsimp only);exact alG):p:=h
theorem ami (G:GH) (w0:World) (hG:Hold G w0) (l:List kR) (t:Int) (v:ah) (hv:au G (.sl 6 (l.map kR.dat)) v) (hl:l.length<=4294967296) :
  Calls prog 251 #[v,vi t,.func (.func 252) #[] #[]] w0 (bK w0 G fun u G'=>u=.tuple #[vi (gM (l.map kR.num) t),.bool (oI (l.map kR.num) t)]):=by
 obtain ⟨A,c,rfl,hc1,hc2,-⟩:=hv.slice;rw [bQ] at *;obtain ⟨p,hp⟩:∃ p:Nat->Bool,p=fun h=>decide (¬ (l.map kR.num).getD h 0 < t):=⟨_,rfl⟩
 have hbs:gM (l.map kR.num) t=mP p l.length 0 l.length:=by rw [hp,gM,bQ]
 refine eN [(0,_),(1,_),(2,_)] func251 rfl ntmps251 rfl rfl hG ?_;intro a H;refine kP H (SR fun _ K1=>Ra rfl (aj K1 rfl (SR fun _ K2=>Rm rfl (Rl Og rfl (aj K2 rfl (SR fun _ K3=>Rm rfl (Ra rfl (aj K3 rfl (SQ fun _ K4=>SB ?_)))))))));clear H K1 K2 K3;intro a H;skip;refine eX (ι:=Nat × Nat × Nat × GH) (Tc:=[(0,_),(1,_),(2,_),(8,_)]) (Lc:=[]) (fun gh=>[(9,vi gh.1),(10,vi gh.2.1)]) (fun gh=>[]) (fun gh=>gh.2.2.2) (fun gh=>gh.1<=gh.2.1∧gh.2.1<=l.length∧gh.2.1 - gh.1<=gh.2.2.1∧mP p gh.2.2.1 gh.1 gh.2.1=gM (l.map kR.num) t∧(∀ b o,G b=some o->gh.2.2.2 b=some o)) (fun gh=>gh.2.1 - gh.1) ((0,l.length,l.length,G)) (by exact H.sub ⟨rfl,rfl,rfl,rfl,rfl,rfl,aB⟩) ?_ ?_
 ·exact aay
 clear H;rintro ⟨i,j,f,g⟩ a w hI H;dsimp only at hI H;obtain ⟨hij,hj,hf1,heq,hgm⟩:=hI;have CJ:=hv.mono hgm;dsimp only [lca,bJ] at H;refine kP H (SQ fun _ K5=>SR fun _ K6=>Rm rfl (Rm rfl (Rc rfl (Kz K6 (Cd rfl ?_ ?_))))) <;> clear H K6
 ·intro fE a H
  try have og:=dT fE
  have hlt:i < j:=by omega
  rw [XD hf1 hlt] at heq;obtain ⟨m,hm⟩:∃ m,m=(i+j) / 2:=⟨_,rfl⟩;rw [<- hm] at heq
  have hml:m < l.length:=by omega
  obtain ⟨b,o,rfl,hrow⟩:=XQ CJ hml
  have hpm:p m=decide (¬ l[m].num < t):=by rw [hp];dsimp only;rw [getD_map hml]
  rw [hpm] at heq;refine kP H (Kc K5 (SB (SR fun _ K7=>Rm rfl (Rm rfl (Rd rfl ?_)))));clear H K5;intro a H;rw [show ((i:Int)+(j:Int))=((i+j:Nat):Int) by push_cast;rfl] at H;refine CV ((i+j:Nat):Int) Lg mh H wn rfl (XE (by omega) (by omega)) rfl ?_;clear H;intro a H;refine Sq _ H wn rfl rfl rfl (by decide) rfl ?_;clear H;intro a H;rw [XB,<- hm] at H;refine CV (m:Int) mh Lg H wn rfl (Il (by omega) (by omega)) rfl ?_;clear H;intro a H;refine kH H (aj K7 rfl (SR fun _ K8=>Rm rfl (Rm rfl (Rm rfl (Ri Og vY rfl rfl ?_)))));clear H K7;intro a H;refine bP vY (cs:=[_,_,_,_,_,_]) H wn rfl rfl (fun j v hj=>H.hp.aH (hrow j v hj)) rfl ?_;clear H;intro a H;refine kH H (Rm rfl ?_);clear H;intro a H;refine kX H wn rfl rfl (adq _ _ H.ro l[m] t) rfl ?_;exact acf
 intro fE a H
 try have og:=dF fE
 refine dP ?_;refine K4 _ _ ?_;clear K4;refine bD (fun _ K9=>?_);rw [XA (by omega)] at heq;refine kP H (SC (Rm rfl (Rm rfl (Rm rfl (Rc rfl (Rm rfl (Sp 39 rfl ?_ ?_))))))) <;> clear H
 ·intro jL a H
  try have p39:=dT jL
  have hil:i < l.length:=by omega
  obtain ⟨b,o,rfl,hrow⟩:=XQ CJ hil;refine kH H (YM jL rfl (YM jL rfl (YM jL rfl (YI Og vY jL rfl rfl ?_))));clear H;intro a H;refine bP vY (cs:=[_,_,_,_,_,_]) H (wg H rfl rfl jL) rfl rfl (fun j v hj=>H.hp.aH (hrow j v hj)) rfl ?_;clear H;intro a H;refine kH H (YM jL rfl ?_);clear H;intro a H;refine kX H (wg H rfl rfl jL) rfl rfl (adq _ _ H.ro l[i] t) rfl ?_;clear H;rintro v46 Tt a w rfl agG H;refine kH H (YC jL rfl (Pt jL rfl (Ra rfl (aX K9 rfl ?_))));clear H K9;intro a H;refine eO ?_;refine (jU H results251 (.cons (fu H rfl) (.cons (fu H rfl) .nil)) ?_).1;exact aaz
 intro jL a H
 try have p39:=dF jL
 refine kH H (bB jL rfl (bB jL rfl (aP jL rfl (Pf jL rfl (Ra rfl (aX K9 rfl ?_))))));clear H K9;intro a H;refine eO ?_;refine (jU H results251 (.cons (fu H rfl) (.cons (fu H rfl) .nil)) ?_).1;exact aaA
theorem adr (G:GH) (w0:World) (hG:Hold G w0) (x:aL) (t:Int):tL prog (.func (.func 261) #[] #[]) [.agg x.cells.toArray,vi t] w0 (bK w0 G fun u G'=>u=vi (Cm x.key t)):=by
 refine jJ (caps:=[]) aqb ?_;refine eN [(0,_),(1,_)] func261 rfl ntmps261 rfl rfl hG ?_;intro a H;refine cO (fun _ K1=>?_);refine dW (cs:=[_,_]) H wn rfl rfl rfl ?_;clear H;intro b2 a w hb2 H;refine kH H (aj K1 rfl (SR fun _ K2=>bq xL aC 0 rfl rfl (Rm rfl ?_)));clear H K1;intro a H;refine s_call aeO H wn rfl (adO _ _ H.ro x.key t) rfl ?_;clear H;rintro v8 G8 a w rfl rH H;exact kH H (aj K2 rfl (LR results261 rfl fun H=>H.rt rfl))
theorem amj (G:GH) (w0:World) (hG:Hold G w0) (l:List aL) (t:Int) (v:ah) (hv:au G (.sl 2 (l.map aL.dat)) v) (hl:l.length<=4294967296) :
  Calls prog 260 #[v,vi t,.func (.func 261) #[] #[]] w0 (bK w0 G fun u G'=>u=.tuple #[vi (gM (l.map aL.key) t),.bool (oI (l.map aL.key) t)]):=by
 obtain ⟨A,c,rfl,hc1,hc2,-⟩:=hv.slice;rw [bQ] at *;obtain ⟨p,hp⟩:∃ p:Nat->Bool,p=fun h=>decide (¬ (l.map aL.key).getD h 0 < t):=⟨_,rfl⟩
 have hbs:gM (l.map aL.key) t=mP p l.length 0 l.length:=by rw [hp,gM,bQ]
 refine eN [(0,_),(1,_),(2,_)] func260 rfl ntmps260 rfl rfl hG ?_;intro a H;refine kP H (SR fun _ K1=>Ra rfl (aj K1 rfl (SR fun _ K2=>Rm rfl (Rl gT rfl (aj K2 rfl (SR fun _ K3=>Rm rfl (Ra rfl (aj K3 rfl (SQ fun _ K4=>SB ?_)))))))));clear H K1 K2 K3;intro a H;skip;refine eX (ι:=Nat × Nat × Nat × GH) (Tc:=[(0,_),(1,_),(2,_),(8,_)]) (Lc:=[]) (fun gh=>[(9,vi gh.1),(10,vi gh.2.1)]) (fun gh=>[]) (fun gh=>gh.2.2.2) (fun gh=>gh.1<=gh.2.1∧gh.2.1<=l.length∧gh.2.1 - gh.1<=gh.2.2.1∧mP p gh.2.2.1 gh.1 gh.2.1=gM (l.map aL.key) t∧(∀ b o,G b=some o->gh.2.2.2 b=some o)) (fun gh=>gh.2.1 - gh.1) ((0,l.length,l.length,G)) (by exact H.sub ⟨rfl,rfl,rfl,rfl,rfl,rfl,aB⟩) ?_ ?_
 ·exact aay
 clear H;rintro ⟨i,j,f,g⟩ a w hI H;dsimp only at hI H;obtain ⟨hij,hj,hf1,heq,hgm⟩:=hI;have CJ:=hv.mono hgm;dsimp only [lca,bJ] at H;refine kP H (SQ fun _ K5=>SR fun _ K6=>Rm rfl (Rm rfl (Rc rfl (Kz K6 (Cd rfl ?_ ?_))))) <;> clear H K6
 ·intro fE a H
  try have og:=dT fE
  have hlt:i < j:=by omega
  rw [XD hf1 hlt] at heq;obtain ⟨m,hm⟩:∃ m,m=(i+j) / 2:=⟨_,rfl⟩;rw [<- hm] at heq
  have hml:m < l.length:=by omega
  obtain ⟨b,o,rfl,hrow⟩:=IG CJ hml
  have hpm:p m=decide (¬ l[m].key < t):=by rw [hp];dsimp only;rw [getD_map hml]
  rw [hpm] at heq;refine kP H (Kc K5 (SB (SR fun _ K7=>Rm rfl (Rm rfl (Rd rfl ?_)))));clear H K5;intro a H;rw [show ((i:Int)+(j:Int))=((i+j:Nat):Int) by push_cast;rfl] at H;refine CV ((i+j:Nat):Int) Lg mh H wn rfl (XE (by omega) (by omega)) rfl ?_;clear H;intro a H;refine Sq _ H wn rfl rfl rfl (by decide) rfl ?_;clear H;intro a H;rw [XB,<- hm] at H;refine CV (m:Int) mh Lg H wn rfl (Il (by omega) (by omega)) rfl ?_;clear H;intro a H;refine kH H (aj K7 rfl (SR fun _ K8=>Rm rfl (Rm rfl (Rm rfl (Ri gT iq rfl rfl ?_)))));clear H K7;intro a H;refine bP iq (cs:=[_,_]) H wn rfl rfl (fun j v hj=>H.hp.aH (hrow j v hj)) rfl ?_;clear H;intro a H;refine kH H (Rm rfl ?_);clear H;intro a H;refine kX H wn rfl rfl (adr _ _ H.ro l[m] t) rfl ?_;exact acf
 intro fE a H
 try have og:=dF fE
 refine dP ?_;refine K4 _ _ ?_;clear K4;refine bD (fun _ K9=>?_);rw [XA (by omega)] at heq;refine kP H (SC (Rm rfl (Rm rfl (Rm rfl (Rc rfl (Rm rfl (Sp 39 rfl ?_ ?_))))))) <;> clear H
 ·intro jL a H
  try have p39:=dT jL
  have hil:i < l.length:=by omega
  obtain ⟨b,o,rfl,hrow⟩:=IG CJ hil;refine kH H (YM jL rfl (YM jL rfl (YM jL rfl (YI gT iq jL rfl rfl ?_))));clear H;intro a H;refine bP iq (cs:=[_,_]) H (wg H rfl rfl jL) rfl rfl (fun j v hj=>H.hp.aH (hrow j v hj)) rfl ?_;clear H;intro a H;refine kH H (YM jL rfl ?_);clear H;intro a H;refine kX H (wg H rfl rfl jL) rfl rfl (adr _ _ H.ro l[i] t) rfl ?_;clear H;rintro v46 Tt a w rfl agG H;refine kH H (YC jL rfl (Pt jL rfl (Ra rfl (aX K9 rfl ?_))));clear H K9;intro a H;refine eO ?_;refine (jU H results260 (.cons (fu H rfl) (.cons (fu H rfl) .nil)) ?_).1;exact aaz
 intro jL a H
 try have p39:=dF jL
 refine kH H (bB jL rfl (bB jL rfl (aP jL rfl (Pf jL rfl (Ra rfl (aX K9 rfl ?_))))));clear H K9;intro a H;refine eO ?_;refine (jU H results260 (.cons (fu H rfl) (.cons (fu H rfl) .nil)) ?_).1;exact aaA
theorem apW:aQ 250:=aR func250 rfl
theorem apX:aQ 251:=aR func251 rfl
theorem iG:prog.underlying 41=some (.slice 3):=by kernel_rfl
theorem apZ:aQ 254:=aR func254 rfl
theorem aeM:aQ 226:=aR func226 rfl
theorem apL:aQ 228:=aR func228 rfl
theorem arj:dH prog 296 1 1:=⟨by kernel_rfl⟩
theorem apK:aQ 227:=aR func227 rfl
theorem ark:dH prog 296 2 2:=⟨by kernel_rfl⟩
theorem arl:dH prog 296 3 3:=⟨by kernel_rfl⟩
def kz:kR:=⟨0,0,0,0,0,⟨#[]⟩⟩
def Ip:List Int:=Iq.map kR.num
def vK (k:Int):kR × Bool:=if oI Ip k=true then (Iq.getD (gM Ip k) kz,true) else (kz,false)
theorem find_spec (G:GH) (w0:World) (hG:Hold G w0) (k:Int):Calls prog 226 #[vi k] w0 (bK w0 G fun u G'=>u=.tuple #[.agg (vK k).1.cells.toArray,.bool (vK k).2]):=by
 refine eN [(0,_)] func226 rfl ntmps226 rfl rfl hG ?_;intro a H;refine cO (fun _ K1=>?_);refine dO vY H wn rfl ?_;clear H;intro b2 a w hb2 H;refine kH H (aj K1 rfl (SR fun _ K2=>?_));clear H K1;intro a H;refine s_call apW H wn rfl (avQ _ _ H.ro) rfl ?_;clear H;rintro v7 G7 a w hv7 vQ H;obtain ⟨A,c,rfl,hc1,hc2,-⟩:=hv7.slice;rw [bQ] at *;refine kH H (aj K2 rfl (SR fun _ K3=>Rm rfl (Rm rfl ?_)));clear H K2;intro a H;refine s_call apX H wn rfl (ami _ _ H.ro Iq k _ hv7 (by decide)) rfl ?_;clear H;rintro v11 zq a w rfl DW H;have hv7:=hv7.mono DW;have hkn:Iq.map kR.num=Ip:=rfl;rw [hkn] at H;obtain ⟨n,hn⟩:∃ n,n=gM Ip k:=⟨_,rfl⟩;obtain ⟨q,hq⟩:∃ q,q=oI Ip k:=⟨_,rfl⟩;rw [<- hn,<- hq] at H;refine kH H (Rm rfl ?_);clear H;intro a H;(iterate 2 refine mg H wn rfl rfl rfl ?_;clear H;intro a H);refine kH H (Ra rfl (aj K3 rfl (SQ fun _ K4=>SR fun _ K5=>Rm rfl (Rn rfl (Kz K5 (Cd rfl ?_ ?_)))))) <;> clear H K3 K5
 ·intro jK a H
  refine cO (fun _ K6=>?_);refine jD ajG [_,_,_,_,_,_] H wn rfl rfl rfl rfl ?_;clear H;intro a H;refine bC vY 0 (vs:=[_,_,_,_,_,_]) H wn rfl ?_;clear H;intro w H;refine kH H (aj K6 rfl ?_);clear H K6;intro a H;refine eO ?_;refine (jU H results226 (.cons (ny vY (cs:=[_,_,_,_,_,_]) H rfl rfl (H.hp.dx 0 rfl rfl)) (.cons (fu H rfl) .nil)) ?_).1;exact H.rt (by rw [vK,av (by rw [<- hq];simpa using jK)];rfl)
 intro jK a H
 try have tu:=dF jK
 have hlt:n < Iq.length:=by have:=Qn (ks:=Ip) (t:=k) (by rw [<- hq];simpa using jK);rw [<- hn] at this;simpa [Ip] using this
 obtain ⟨b,o,rfl,hrow⟩:=XQ hv7 hlt;refine kP H (Kc K4 (SR fun _ K7=>Rm rfl (Rm rfl (Ri Og vY rfl rfl ?_))));clear H K4;intro a H;refine bP vY (cs:=[_,_,_,_,_,_]) H wn rfl rfl (fun j v hj=>H.hp.aH (hrow j v hj)) rfl ?_;clear H;intro a H;refine bC vY 0 (vs:=[_,_,_,_,_,_]) H wn rfl ?_;clear H;intro w H;refine kH H (aj K7 rfl ?_);clear H K7;intro a H;refine eO ?_;refine (jU H results226 (.cons (ny vY (cs:=[_,_,_,_,_,_]) H rfl rfl (H.hp.dx 0 rfl rfl)) (.cons (fu H rfl) .nil)) ?_).1;exact H.rt (by rw [vK,aG (by rw [<- hq];simpa using jK),<- hn,List.getD_eq_getElem?_getD,dV hlt];rfl)
def AB (e:Int):List Int:=if e=1∨e=4∨e=5∨e=6 then [1] else if e=2 then [1,2] else if e=3 then [3] else if e=7 then [6] else if e=9 then [4] else if e=10 then [5] else []
theorem Fh (G:GH) (A:List Int):bZ G 1 (A.map fun k=>[li k]) (A.map vi):=by
 refine ⟨A.map fun k=>[vi k],?_,by simp,fun j r cs hr hc=>?_⟩
 ·induction A with
  | nil=>rfl
  | cons a A ih=>simpa using ih
 rw [qL] at hr hc
 cases h:A[j]? with
 | none=>rw [h] at hr;cases hr
 | some x =>
  rw [h] at hr hc
  cases hr;cases hc
  exact ⟨by simp only [aY];exact ⟨_,_,rfl,by simp [au,Value.oneCell'],rfl⟩,rfl⟩
theorem Ci {p:Prop} (h:p:=by
 first
  | exact H.rt (by rw [AB,dw,dw,dw,dw,dw,dw];exact au.qV rfl (by decide))
  | (obtain ⟨Gz,hmz,hbz,H⟩:=H.fB
     first
       | exact H.rt (by rw [AB,mQ];exact au.vV (n:=1) (cap:=1) hbz rfl (eu _) (show 1<=maxLen by decide) rfl (Fh _ [1]))
       | exact H.rt (by rw [AB,dw,mQ];exact au.vV (n:=2) (cap:=2) hbz rfl (eu _) (show 2<=maxLen by decide) rfl (Fh _ [1,2]))
       | exact H.rt (by rw [AB,dw,dw,mQ];exact au.vV (n:=1) (cap:=1) hbz rfl (eu _) (show 1<=maxLen by decide) rfl (Fh _ [3]))
       | exact H.rt (by rw [AB,dw,dw,dw,mQ];exact au.vV (n:=1) (cap:=1) hbz rfl (eu _) (show 1<=maxLen by decide) rfl (Fh _ [6]))
       | exact H.rt (by rw [AB,dw,dw,dw,dw,mQ];exact au.vV (n:=1) (cap:=1) hbz rfl (eu _) (show 1<=maxLen by decide) rfl (Fh _ [4]))
       | exact H.rt (by rw [AB,dw,dw,dw,dw,dw,mQ];exact au.vV (n:=1) (cap:=1) hbz rfl (eu _) (show 1<=maxLen by decide) rfl (Fh _ [5])))):p:=h
theorem arU (G:GH) (w0:World) (hG:Hold G w0) (e:Int):Calls prog 228 #[vi e] w0 (bK w0 G fun u G'=>au G' (.sl 1 ((AB e).map fun k=>[li k])) u):=by
  refine eN [(0,_)] func228 rfl ntmps228 rfl rfl hG ?_;intro a H;refine kP H (SR fun _ K1=>aj K1 rfl (SQ fun _ K2=>SR fun _ K3=>Rm rfl (Kz K3 (SB (SQ fun _ K4=>SR fun _ K5=>Rc rfl (aj K5 rfl (Cd rfl ?_ ?_))))))) <;> clear H K1 K3 K5
  · intro h4 a H
    try have p4:=dT h4
    refine kP H (Kc K4 (Ct rfl h4 (SR fun _ K6=>?_)));clear H K4;intro a H;refine iT iG aC [_] [_] H wn rfl rfl rfl rfl rfl (by intro i q h;match i,h with|0,h=>exact h|n+1,h=>simp at h) rfl rfl ?_;clear H;intro b9 a w Cu H;refine kH H (aj K6 rfl ?_);clear H K6;intro a H;refine lr H results228 rfl ?_
    exact Ci
  intro h4 a H
  try have p4:=dF h4
  refine kP H (SR fun _ K7=>Rc rfl (aj K7 rfl (Cd rfl ?_ ?_))) <;> clear H K7
  · intro h4 a H
    try have p4:=dT h4
    refine kP H (Kc K4 (Ct rfl h4 (SR fun _ K8=>?_)));clear H K4;intro a H;refine iT iG aC [_] [_] H wn rfl rfl rfl rfl rfl (by intro i q h;match i,h with|0,h=>exact h|n+1,h=>simp at h) rfl rfl ?_;clear H;intro b9 a w Cu H;refine kH H (aj K8 rfl ?_);clear H K8;intro a H;refine lr H results228 rfl ?_
    exact Ci
  intro h4 a H
  try have p4:=dF h4
  refine kP H (SR fun _ K9=>Rc rfl (aj K9 rfl (Cd rfl ?_ ?_))) <;> clear H K9
  · intro h4 a H
    try have p4:=dT h4
    refine kP H (Kc K4 (Ct rfl h4 (SR fun _ aW=>?_)));clear H K4;intro a H;refine iT iG aC [_] [_] H wn rfl rfl rfl rfl rfl (by intro i q h;match i,h with|0,h=>exact h|n+1,h=>simp at h) rfl rfl ?_;clear H;intro b9 a w Cu H;refine kH H (aj aW rfl ?_);clear H aW;intro a H;refine lr H results228 rfl ?_
    exact Ci
  intro h4 a H
  try have p4:=dF h4
  refine kP H (SC (Rc rfl (aX K4 rfl (Cd rfl ?_ ?_)))) <;> clear H K4
  · intro h4 a H
    try have p4:=dT h4
    refine cO (fun _ bM=>?_);refine iT iG aC [_] [_] H wn rfl rfl rfl rfl rfl (by intro i q h;match i,h with|0,h=>exact h|n+1,h=>simp at h) rfl rfl ?_;clear H;intro b9 a w Cu H;refine kH H (aj bM rfl ?_);clear H bM;intro a H;refine lr H results228 rfl ?_
    exact Ci
  intro h4 a H
  try have p4:=dF h4
  refine kP H (SR fun _ bU=>Rc rfl (aj bU rfl (Cd rfl ?_ ?_))) <;> clear H bU
  · intro h10 a H
    try have nN:=dT h10
    refine cO (fun _ bY=>?_);refine iT iG aC [_,_] [_,_] H wn rfl rfl rfl rfl rfl (by intro i q h;match i,h with|0,h=>exact h|1,h=>exact h|n+2,h=>simp at h) rfl rfl ?_;clear H;intro b12 a w Hy H;refine kH H (aj bY rfl ?_);clear H bY;intro a H;refine lr H results228 rfl ?_
    exact Ci
  intro h10 a H
  try have nN:=dF h10
  refine kP H (SR fun _ cZ=>Rc rfl (aj cZ rfl (Cd rfl ?_ ?_))) <;> clear H cZ
  · intro gQ a H
    try have sw:=dT gQ
    refine cO (fun _ dQ=>?_);refine iT iG aC [_] [_] H wn rfl rfl rfl rfl rfl (by intro i q h;match i,h with|0,h=>exact h|n+1,h=>simp at h) rfl rfl ?_;clear H;intro b15 a w agi H;refine kH H (aj dQ rfl ?_);clear H dQ;intro a H;refine lr H results228 rfl ?_
    exact Ci
  intro gQ a H
  try have sw:=dF gQ
  refine kP H (SR fun _ dR=>Rc rfl (aj dR rfl (Cd rfl ?_ ?_))) <;> clear H dR
  · intro h16 a H
    try have p16:=dT h16
    refine cO (fun _ dK=>?_);refine iT iG aC [_] [_] H wn rfl rfl rfl rfl rfl (by intro i q h;match i,h with|0,h=>exact h|n+1,h=>simp at h) rfl rfl ?_;clear H;intro b18 a w Qp H;refine kH H (aj dK rfl ?_);clear H dK;intro a H;refine lr H results228 rfl ?_
    exact Ci
  intro h16 a H
  try have p16:=dF h16
  refine kP H (SR fun _ dX=>Rc rfl (aj dX rfl (Cd rfl ?_ ?_))) <;> clear H dX
  · intro h19 a H
    try have tC:=dT h19
    refine cO (fun _ fM=>?_);refine iT iG aC [_] [_] H wn rfl rfl rfl rfl rfl (by intro i q h;match i,h with|0,h=>exact h|n+1,h=>simp at h) rfl rfl ?_;clear H;intro b21 a w aBT H;refine kH H (aj fM rfl ?_);clear H fM;intro a H;refine lr H results228 rfl ?_
    exact Ci
  intro h19 a H
  try have tC:=dF h19
  refine kP H (SR fun _ eP=>Rc rfl (aj eP rfl (Cd rfl ?_ ?_))) <;> clear H eP
  · intro h22 a H
    try have oK:=dT h22
    refine cO (fun _ gB=>?_);refine iT iG aC [_] [_] H wn rfl rfl rfl rfl rfl (by intro i q h;match i,h with|0,h=>exact h|n+1,h=>simp at h) rfl rfl ?_;clear H;intro b24 a w aBW H;refine kH H (aj gB rfl ?_);clear H gB;intro a H;refine lr H results228 rfl ?_
    exact Ci
  intro h22 a H
  try have oK:=dF h22
  refine kP H (Kc K2 (SR fun _ iH=>aj iH rfl ?_));clear H K2 iH;intro a H;refine lr H results228 rfl ?_
  exact Ci
theorem avE {G:GH} {l:List Int} {A:Option Addr} {n c k:Nat} (hv:au G (.sl 1 (l.map fun k=>[li k])) (.slice A n c)) (hk:k < l.length):∃ b o,A=some ⟨b,o,none⟩∧aH G b (o+k*1)=some (vi l[k]):=by
 obtain ⟨A',c',he,_,_,hg⟩:=hv.slice
 injection he with e1 e2 e3
 subst e1;obtain ⟨b,o,cs,h1,h2,h3,h4⟩:=hg k [li l[k]] (by simp [hk])
 simp only [aY,au] at h4
 obtain ⟨v1,_,rfl,⟨rfl,-⟩,rfl⟩:=h4;exact ⟨b,o,h1,h3 0 _ rfl⟩
theorem Ju {p:Prop} (h:p:=by
 exact ⟨kE _,rfl⟩):p:=h
theorem avz (G:GH) (w0:World) (hG:Hold G w0) (l:List Int) (t:Int) (v:ah) (hv:au G (.sl 1 (l.map fun k=>[li k])) v) :
  Calls prog 254 #[v,vi t] w0 (bK w0 G fun u G'=>u=vi (nY (l.findIdx? fun x=>decide (t=x)))):=by
 obtain ⟨A,c,rfl,hc1,hc2,-⟩:=hv.slice;have hml:maxLen=9223372036854775807:=rfl;rw [bQ] at *;refine eN [(0,_),(1,_)] func254 rfl ntmps254 rfl rfl hG ?_;intro a H;refine kP H (SR fun _ K1=>aj K1 rfl (SQ fun _ K2=>SR fun _ K3=>Rm rfl (Rl iG rfl (Rm rfl (Kz K3 (SB ?_))))));clear H K1 K3;intro a H;skip;refine eX (ι:=Nat) (Tc:=[(0,_),(1,_),(7,_)]) (Lc:=[]) (fun gh=>[(8,vi gh)]) (fun gh=>[]) (fun gh=>G) (fun gh=>gh<=l.length∧(l.take gh).findIdx? (fun x=>decide (t=x))=none) (fun gh=>l.length - gh) (0) (by exact H.sub ⟨rfl,rfl,rfl,rfl,aB⟩) ?_ ?_
 ·exact Ju
 clear H;intro k a w hI H;obtain ⟨hk,hno⟩:=hI;dsimp only [lca,bJ] at H;refine kP H (SR fun _ K4=>Rc rfl (Kz K4 (SQ fun _ K5=>Cd rfl ?_ ?_))) <;> clear H K4
 ·intro h9 a H
  try have p9:=dT h9
  have hk2:k < l.length:=by omega
  obtain ⟨b,o,rfl,hrow⟩:=avE hv hk2;refine kP H (Kc K5 (SQ fun _ K6=>SB (SR fun _ K7=>Rm rfl (aj K7 rfl (SR fun _ K8=>Rm rfl (Rm rfl (Rm rfl (Ri iG aC rfl rfl (Rg aC rfl (by assumption) ?_)))))))));clear H K5 K7;intro a H;refine kH H (Rc rfl (Kz K8 (Cd rfl ?_ ?_))) <;> clear H K8
  ·intro h16 a H
   try have p16:=dT h16
   exact kP H (SR fun _ K9=>Rm rfl (aj K9 rfl (LR results254 rfl fun H=>H.rt (by rw [XL hk2 hno (by simpa using p16)];rfl))))
  intro h16 a H
  try have p16:=dF h16
  refine kP H (Kc K6 (SC (Rd rfl (Rm rfl ?_))));clear H K6;intro a H;refine aD ?_;refine dG ((k+1)) (by exact H.sub ⟨rfl,rfl,rfl,rfl,aB⟩) ?_
  exact ⟨by omega,ahz hk2 hno (by simpa using p16)⟩
 intro h9 a H
 try have p9:=dF h9
 refine dP ?_;refine K2 _ _ ?_;clear K2;exact kP H (SR fun _ aW=>aj aW rfl (LR results254 rfl fun H=>H.rt (by rw [show l.take k=l from nU (by omega)] at hno;rw [hno];rfl)))
theorem anN (G:GH) (w0:World) (hG:Hold G w0) (l:List Int) (t:Int) (v:ah) (hv:au G (.sl 1 (l.map fun k=>[li k])) v) :
  Calls prog 227 #[v,vi t] w0 (bK w0 G fun u G'=>u=.bool (decide (t∈l))):=by
 obtain ⟨A,c,rfl,hc1,hc2,-⟩:=hv.slice;rw [bQ] at *;refine eN [(0,_),(1,_)] func227 rfl ntmps227 rfl rfl hG ?_;intro a H;refine kP H (SR fun _ K1=>aj K1 rfl (SR fun _ K2=>Rm rfl (Rm rfl ?_)));clear H K1;intro a H;refine s_call apZ H wn rfl (avz _ _ H.ro l t _ hv) rfl ?_;clear H;rintro v7 G7 a w rfl vQ H;refine kH H (Rc rfl (aj K2 rfl ?_));clear H K2;intro a H;refine lr H results227 rfl ?_
 exact H.rt (by
  congr 1
  cases h:l.findIdx? (fun x=>decide (t=x)) with
  | none =>
   rw [List.findIdx?_eq_none_iff] at h;have:t∉l:=fun hm=>absurd (h t hm) (by simp)
   simp [nY,this]
  | some i =>
   obtain ⟨hi,he,-⟩:=List.findIdx?_eq_some_iff_getElem.1 h
   have:t∈l:=by rw [pI he];exact jB _
   simp [nY,this])
def wE (e k:Int):Bool:=(vK k).2 && decide ((vK k).1.JY∈AB e)
theorem alI {p:Prop} (h:p:=by
 exact kH H (Rm rfl fun _ H=>fin H iJ rfl)):p:=h
theorem wz {p:Prop} (h:p:=by
 exact H.rt rfl):p:=h
theorem aaB {p:Prop} (h:p:=by
 exact fin H iJ (by show _=_;simp)):p:=h
theorem Mq {p:Prop} (h:p:=by
 intro bH a w G1 hG HT H fin;exact alI):p:=h
theorem afx (G:GH) (w0:World) (hG:Hold G w0) (e k:Int):Calls prog 194 #[vi e,vi k] w0 (bK w0 G fun u G'=>u=.bool (wE e k)):=by
 refine eN [(0,_),(1,_)] func194 rfl ntmps194 rfl rfl hG ?_;intro a H;refine kP H (SR fun _ K1=>aj K1 rfl (SR fun _ K2=>Rm rfl ?_));clear H K1;intro a H;refine s_call aeM H wn rfl (find_spec _ _ H.ro k) rfl ?_;clear H;rintro v9 G9 a w rfl yS H;dsimp only [kR.cells] at H;refine kH H (Rm rfl ?_);clear H;intro a H;(iterate 2 refine mg H wn rfl rfl rfl ?_;clear H;intro a H);refine dO vY H wn rfl ?_;clear H;intro b5 a w hb5 H;refine bC vY 0 (vs:=[_,_,_,_,_,_]) H wn rfl ?_;clear H;intro w H;refine kH H (aj K2 rfl (SQ fun _ K3=>?_));clear H K2;intro a H
 by_cases c0:(vK k).2=true
 ·skip
  have sZ:BS (fun (bT:Nat) (v:ah) (G:GH)=>match bT with|0=>v=.bool (vK k).2|1=>v=.bool (decide ((vK k).2=true))|2=>v=vi e|3=>(vK k).2=true->au G (.sl 1 ((AB e).map fun k=>[li k])) v|4=>v=(aJ b5 1)|5=>v=vi (vK k).1.JY|6=>v=.bool (decide ((vK k).1.JY∈AB e))|7=>v=.bool (wE e k)|_=>True):=by intro bT v G G' hm h;(iterate 9 (rcases bT with _|bT;(first|exact h|exact fun hf=>(h hf).mono hm)));exact trivial
  refine Au (hmx) [[],[0],[0,1],[0,1,2],[0,1],[0,1,4],ra 0 6,ra 0 7,ra 0 8] [8] (by kernel_rfl) (by kernel_rfl) _ sZ H ?_ ?_
  ·clear H;refine ay ?_ ?_ ?_ ?_ (ay ?_ ?_ ?_ ?_ (bF (bR rfl) cK))
   ·refine fP [] rfl trivial (by kernel_rfl) sZ rfl rfl ?_;exact Mq
   ·refine fP [(0,12,_)] rfl ⟨fun _ _ h=>h,aB⟩ (by kernel_rfl) sZ rfl rfl ?_;intro bH a w G1 hG HT H fin;refine kH H (Rm rfl ?_);clear H;intro a H;exact fin H iJ (by simp)
   ·refine fP [(1,13,_)] rfl ⟨fun _ _ h=>h,aB⟩ (by kernel_rfl) sZ rfl rfl ?_;intro bH a w G1 hG HT H fin;exact kH H (YM (aI c0) rfl fun _ H=>fin H iJ rfl)
   ·refine fP [(2,14,_),(1,13,_)] rfl ⟨fun _ _ h=>h,fun _ _ h=>h,aB⟩ (by kernel_rfl) sZ rfl rfl ?_;intro bH a w G1 hG HT H fin;refine s_call apL H (wg H rfl rfl (aI c0)) rfl (arU _ _ H.ro e) rfl ?_;clear H;rintro v15 Ey a w Bd AV H;exact fin H AV (by first|exact fun _=>Bd|rfl)
   ·refine fP [(1,13,_)] rfl ⟨fun _ _ h=>h,aB⟩ (by kernel_rfl) sZ rfl rfl ?_;intro bH a w G1 hG HT H fin;exact kH H (YF arj (aI c0) rfl fun _ H=>fin H iJ rfl)
   ·refine fP [(4,16,_),(1,13,_)] rfl ⟨fun _ _ h=>h,fun _ _ h=>h,aB⟩ (by kernel_rfl) sZ rfl rfl ?_;intro bH a w G1 hG HT H fin;exact kH H (YO aC 0 (aI c0) rfl fun _ H=>fin H iJ rfl)
   ·intro bH a w G1 _ aO hc hG HT hv;have H:=HT;clear aO;obtain ⟨u15,Xx,Bd⟩:=hv 3 15 (hc 3 (by decide)) rfl;(try dsimp only at Bd);have H:=H.iI Xx;have H:=H.aM (hv 5 17 (hc 5 (by decide)) rfl) rfl;have H:=H.aM (hv 1 13 (hc 1 (by decide)) rfl) rfl;have Hb:=H.full;have H:=Hb;clear hc;refine s_call apK H (wg H rfl rfl (aI c0)) rfl (anN _ _ H.ro _ _ _ (Bd c0)) rfl ?_;clear H;rintro v18 ZO a w rfl Wy H;refine aD ⟨rfl,?_⟩;exact xJ (by kernel_rfl) sZ rfl rfl HT Hb hG hv Wy (rfl) H
   refine fP [(1,13,_),(6,18,_)] rfl ⟨fun _ _ h=>h,fun _ _ h=>h,aB⟩ (by kernel_rfl) sZ rfl rfl ?_;intro bH a w G1 hG HT H fin;refine kH H (Pt (aI c0) rfl ?_);clear H;intro a H;exact fin H iJ (by unfold wE;simp_all)
  clear H;intro a w G DT H hv;have H:=H.aM (hv 7 19 rfl rfl) rfl;clear hv;refine kH H (Ra rfl ?_);clear H;intro a H;refine aD ⟨rfl,?_⟩;refine K3 _ _ ?_;clear K3;refine lr H results194 rfl ?_;exact wz
 skip;refine dI hmx [[],[0],[0,1],[0,1,2],[0,1],[0,1,4],ra 0 6,ra 0 7,ra 0 8] [8] (by kernel_rfl) [_,.bool (decide ((vK k).2=true)),undef,undef,undef,undef,undef,.bool (wE e k)] H (ay (Z0 rfl (Rm rfl)) ?_ (aU 1 (aT c0) rfl rfl) ?_ (ay (aU 1 (aT c0) rfl rfl) (aU 1 (aT c0) rfl rfl) (aU 1 (aT c0) rfl rfl) ?_ (bF (bR rfl) cK))) ?_
 ·refine gZ 0 12 rfl rfl fun _ a w G1 hG HT H fin=>?_;refine kH H (Rm rfl ?_);clear H;intro a H;exact aaB
 ·intro bH a w G1 _ aO hc hG HT hv;have H:=HT;clear aO;have H:=H.aM (hv 2 14 (hc 2 (by decide)) rfl) rfl;have H:=H.aM (hv 1 13 (hc 1 (by decide)) rfl) rfl;have Hb:=H.full;have H:=Hb;clear hc;refine kH H (Ks (aT c0) rfl ?_);clear H;intro a H;refine aD ⟨rfl,?_⟩;exact xJ (by kernel_rfl) (fun _ _ _ _ _ h=>h) rfl rfl HT Hb hG hv (fun _ _ h=>h) (by first|exact fun _=>Bd|rfl) H
 ·refine dY 1 13 6 18 rfl rfl fun _ a w G1 hG HT H fin=>?_;refine kH H (Pf (aT c0) rfl ?_);clear H;intro a H;exact fin H iJ (by show _=_;unfold wE;simp_all)
 clear H;intro a w G DT H hv;have H:=H.aM (hv 7 19 rfl rfl) rfl;clear hv;refine kH H (Ra rfl ?_);clear H;intro a H;refine aD ⟨rfl,?_⟩;refine K3 _ _ ?_;clear K3;refine lr H results194 rfl ?_;exact wz
def uL (k v:Int):Int:=if (vK k).2=false then 4 else if v < (vK k).1.low∨(vK k).1.high < v then 5 else 0
theorem ady (G:GH) (w0:World) (hG:Hold G w0) (k x:Int):Calls prog 195 #[vi k,vi x] w0 (bK w0 G fun u G'=>u=vi (uL k x)):=by
 refine eN [(0,_),(1,_)] func195 rfl ntmps195 rfl rfl hG ?_;intro a H;refine kP H (SR fun _ K1=>aj K1 rfl (SR fun _ K2=>Rm rfl ?_));clear H K1;intro a H;refine s_call aeM H wn rfl (find_spec _ _ H.ro k) rfl ?_;clear H;rintro v9 G9 a w rfl yS H;dsimp only [kR.cells] at H;refine kH H (Rm rfl ?_);clear H;intro a H;(iterate 2 refine mg H wn rfl rfl rfl ?_;clear H;intro a H);refine dO vY H wn rfl ?_;clear H;intro b5 a w hb5 H;refine bC vY 0 (vs:=[_,_,_,_,_,_]) H wn rfl ?_;clear H;intro w H;refine kH H (aj K2 rfl (SQ fun _ K3=>SB (SR fun _ K4=>Rm rfl (Rn rfl (aj K4 rfl (Cd rfl ?_ ?_)))))) <;> clear H K2 K4
 ·intro h12 a H
  try have qD:=dT h12
  exact kP H (SR fun _ K5=>aj K5 rfl (LR results195 rfl fun H=>H.rt (by unfold uL;simp_all)))
 intro h12 a H
 try have qD:=dF h12
 refine kP H (SR fun _ K6=>Rm rfl (bq ark aC 0 rfl rfl (Rc rfl (Rm rfl (Sp 20 rfl ?_ ?_))))) <;> clear H
 ·intro h20 a H
  try have za:=dT h20
  exact kH H (aP h20 rfl (aP h20 rfl (Pt h20 rfl (aj K6 rfl (Ct rfl rfl (SR fun _ K7=>aj K7 rfl (LR results195 rfl fun H=>H.rt (by unfold uL;simp_all))))))))
 intro h20 a H
 try have za:=dF h20
 refine kH H (YM h20 rfl (YF arl h20 rfl (YO aC 0 h20 rfl (YC h20 rfl (Pf h20 rfl (aj K6 rfl (Cd rfl ?_ ?_))))))) <;> clear H K6
 ·intro jK a H
  try have tu:=dT jK
  exact kP H (SR fun _ K8=>aj K8 rfl (LR results195 rfl fun H=>H.rt (by unfold uL;simp_all)))
 intro jK a H
 try have tu:=dF jK
 exact kP H (Kc K3 (SR fun _ K9=>aj K9 rfl (LR results195 rfl fun H=>H.rt (by unfold uL;simp_all))))
theorem aeF:aQ 194:=aR func194 rfl
theorem P9:dH prog 187 1 1:=⟨by kernel_rfl⟩
theorem aeG:aQ 195:=aR func195 rfl
theorem aqa:aQ 260:=aR func260 rfl
theorem Vw:aQ 240:=aR func240 rfl
def Fp (q:Option Int) (k:Int):Bool:=match q with|some j=>decide (k < j)|none=>false
def zI (e:Int):Option Int->List aL->Int
 | _,[]=>0
 | q,p :: r=>if wE e p.key=false then 4 else if q=some p.key then 7 else if Fp q p.key=true then 6 else if uL p.key p.value=0 then zI e (some p.key) r else uL p.key p.value
def Br (l:List aL) (k:Nat):Option Int:=if k=0 then none else l[k - 1]?.map aL.key
def ru (e:Int) (l:List aL):Int:=if e < 1∨10 < e then 3 else zI e none l
theorem anf {e:Int} {l:List aL} {k:Nat} (h:k < l.length):zI e (Br l k) (l.drop k)=if wE e l[k].key=false then 4 else if Br l k=some l[k].key then 7 else if Fp (Br l k) l[k].key=true then 6 else if uL l[k].key l[k].value=0 then zI e (Br l (k+1)) (l.drop (k+1)) else uL l[k].key l[k].value:=by
 rw [oF h,zI]
 have:Br l (k+1)=some l[k].key:=by rw [Br,dw,Nat.add_sub_cancel,dV h];rfl
 rw [this]
theorem RH {l:List aL} {k:Nat} (h:k=0):Br l k=none:=aG h
theorem aaC {p:Prop} (h:p:=by
 first
  | exact H.rt (dh vi (by rw [av (by simpa using p61)] at heq;rw [ru,dw];exact heq))
  | exact H.rt (dh vi (by rw [aG (by simpa using h21)] at heq;rw [ru,dw];exact heq))
  | exact H.rt (dh vi (by rw [ru,dw];exact heq))
  | exact H.rt (dh vi (by rw [ru,dw,<- heq,show l.drop k=[] from pJ (by omega)];rfl))
  | exact H.rt (dh vi (by rw [ru,mQ]))):p:=h
theorem EG {p:Prop} (h:p:=by
 exact ⟨kE _,rfl,fun _ _ h=>h⟩):p:=h
theorem aaD {p:Prop} (h:p:=by
 exact fin H iJ (by show _=_;first|rfl|exact dh vi (by omega))):p:=h
theorem alJ {p:Prop} (h:p:=by
 exact ⟨by omega,h.symm⟩):p:=h
theorem alK {p:Prop} (h:p:=by
 exact ⟨by omega,pI h⟩):p:=h
theorem aaE {p:Prop} (h:p:=by
 exact ⟨heq,fun b o h=>wK b o (rW b o (oU b o h))⟩):p:=h
theorem zG {p:Prop} (h:p:=by
 refine zl _ H (wg H rfl rfl (aI c0)) rfl rfl rfl (by omega) (by omega) rfl ?_;clear H;intro a H;exact aaD):p:=h
theorem JE {p:Prop} (h:p:=by
 intro a H;refine lr H results129 rfl ?_
 exact aaC):p:=h
theorem Pv {p:Prop} (h:p:=by
 rw [(hpk h0).2] at h
 injection h with h
 exact alJ):p:=h
theorem Pb {p:Prop} (h:p:=by
 rw [(hpk h0).2] at h;exact alK):p:=h
theorem abH {p:Prop} (h:p:=by
 refine dY 9 51 2 44 rfl rfl fun _ a w G1 hG HT H fin=>?_;refine qE aC H (wg H rfl rfl (aI c0)) rfl (H.hp.aH (aF hG (aF rW (aF oU (hpk (by omega)).1)))) rfl ?_;exact jk):p:=h
theorem aiL (G:GH) (w0:World) (hG:Hold G w0) (e:Int) (l:List aL) (v:ah) (hv:au G (.sl 2 (l.map aL.dat)) v) :
  Calls prog 129 #[vi e,v] w0 (bK w0 G fun u G'=>u=vi (ru e l)):=by
 obtain ⟨A,c,rfl,hc1,hc2,-⟩:=hv.slice;have hml:maxLen=9223372036854775807:=rfl;rw [bQ] at *;refine eN [(0,_),(1,_)] func129 rfl ntmps129 rfl rfl hG ?_;intro a H;refine kP H (SR fun _ K1=>aj K1 rfl (SQ fun _ K2=>SR fun _ K3=>Rm rfl (Rc rfl (Rm rfl (Sp 10 rfl ?_ ?_))))) <;> clear H K1
 ·intro h10 a H
  try have nN:=dT h10
  refine kH H (aP h10 rfl (Pt h10 rfl (Kz K3 (Ct rfl rfl (SR fun _ K4=>aj K4 rfl ?_)))));clear H K3 K4;exact JE
 intro h10 a H
 try have nN:=dF h10
 refine kH H (YM h10 rfl (YC h10 rfl (Pf h10 rfl (Kz K3 (Cd rfl ?_ ?_))))) <;> clear H K3
 ·intro gQ a H
  try have sw:=dT gQ
  refine kP H (SR fun _ K5=>aj K5 rfl ?_);clear H K5;exact JE
 intro gQ a H
 try have sw:=dF gQ
 refine kP H (Kc K2 (SQ fun _ K6=>SR fun _ K7=>Rm rfl (Rl gT rfl (Rm rfl (Kz K7 (SB ?_))))));clear H K2 K7;intro a H;skip;refine eX (ι:=Nat × GH) (Tc:=[(0,_),(1,_),(14,_),(15,_)]) (Lc:=[]) (fun gh=>[(16,vi gh.1)]) (fun gh=>[]) (fun gh=>gh.2) (fun gh=>gh.1<=l.length∧zI e (Br l gh.1) (l.drop gh.1)=zI e none l∧(∀ b o,G b=some o->gh.2 b=some o)) (fun gh=>l.length - gh.1) ((0,G)) (by exact H.sub ⟨rfl,rfl,rfl,rfl,rfl,aB⟩) ?_ ?_
 ·exact EG
 clear H;rintro ⟨k,g⟩ a w hI H;dsimp only at hI H;obtain ⟨hk,heq,hgm⟩:=hI;dsimp only [lca,bJ] at H;refine kP H (SR fun _ K8=>Rc rfl (Kz K8 (SQ fun _ K9=>Cd rfl ?_ ?_))) <;> clear H K8
 ·intro fE a H
  try have og:=dT fE
  have hk2:k < l.length:=by omega
  have CJ:=hv.mono hgm;obtain ⟨b,o,rfl,hrow⟩:=IG CJ hk2
  obtain ⟨pk,hpk⟩:∃ pk,0 < k->aH g b (o+(k - 1)*2+0)=some (vi pk)∧Br l k=some pk:=by
   by_cases h0:0 < k
   ·obtain ⟨b',o',he,hr'⟩:=IG CJ (show k - 1 < l.length by omega)
    injection he with he
    injection he with e1 e2 e3
    subst e1;subst e2;exact ⟨_,fun _=>⟨hr' 0 _ rfl,by rw [Br,dw,dV (by omega)];rfl⟩⟩
   exact ⟨0,fun h=>absurd h h0⟩
  rw [anf hk2] at heq;have aCc:=heq;refine kP H (Kc K9 (SQ fun _ aW=>SB (SR fun _ bM=>Rm rfl (Ri gT iq rfl rfl ?_))));clear H K9;intro a H;refine bP iq (cs:=[_,_]) H wn rfl rfl (fun j v hj=>H.hp.aH (hrow j v hj)) rfl ?_;clear H;intro a H;refine dO iq H wn rfl ?_;clear H;intro b6 a w hb6 H;refine kH H (Ra rfl ?_);clear H;intro a H;refine bC iq 0 (vs:=[_,_]) H wn rfl ?_;clear H;intro w H;refine bM _ _ ?_;clear bM;refine tT (ι:=GH) (Tc:=[(0,_),(1,_),(6,_),(14,_),(15,_),(16,_)]) (Lc:=[(_,_)]) (fun gh=>[]) (fun gh=>[]) (fun gh=>gh) (fun gh=>(if uL l[k].key l[k].value=0 then zI e (Br l (k+1)) (l.drop (k+1)) else uL l[k].key l[k].value)=zI e none l∧(∀ b o,g b=some o->gh b=some o)) (by exact H.sub ⟨rfl,rfl,rfl,rfl,rfl,rfl,aB⟩) ?_ ?_
  ·skip;refine kP H (SB (SR fun _ bU=>Rm rfl (bq xL aC 0 rfl rfl ?_)));clear H;intro a H;refine s_call aeF H wn rfl (afx _ _ H.ro e l[k].key) rfl ?_;clear H;rintro v25 FV a w rfl oU H;replace hrow:=fun j u hj=>aF oU (hrow j u hj);refine kH H (Rn rfl (aj bU rfl (Cd rfl ?_ ?_))) <;> clear H bU
   ·intro h21 a H
    try have wU:=dT h21
    refine kP H (SR fun _ bY=>aj bY rfl ?_);clear H bY;exact JE
   intro h21 a H
   try have wU:=dF h21
   rw [av (by simpa using h21)] at heq;refine bD (fun _ cZ=>?_)
   by_cases c0:0 < (k:Int)
   ·skip
    by_cases c1:l[k].key=pk
    ·skip;refine dI hmx [[],[0],[0,1],[0,1,2],ra 0 4,[0,1,2],[0,1,2],[0,1,2,6],[0,1,2,5,6,7],[0,1,2,5,6,7,8],[0,1,2,5,6,7,8,9],ra 0 11,ra 0 12,ra 0 13] [13] (by kernel_rfl) [_,_,_,_,vi l[k].key,_,_,vi ((k - 1:Nat):Int),_,_,_,_,_] H (ay (Z0 rfl (Rm rfl)) (Z1 0 28 rfl (Rc rfl)) (Z1 1 29 rfl (Rm rfl)) (Z1 2 30 rfl (YF xL (aI c0) rfl)) (ay (Z2 3 31 2 30 rfl (YO aC 0 (aI c0) rfl)) (Z1 2 30 rfl (YM (aI c0) rfl)) (Z1 2 30 rfl (YM (aI c0) rfl)) ?_ (ay (Z3 5 33 7 35 2 30 rfl (YI gT iq (aI c0) rfl rfl)) (Z2 8 36 2 30 rfl (YF xL (aI c0) rfl)) (X2 9 37 2 30 rfl fun hG=>YR aC (aI c0) rfl (aF hG (aF oU (hpk (by omega)).1))) (Z3 4 32 10 38 2 30 rfl (YC (aI c0) rfl)) (bF (Z2 2 30 11 39 rfl (Pt (aI c0) rfl)) (bF (bR rfl) cK))))) ?_
     ·refine dY 6 34 2 30 rfl rfl fun _ a w G1 hG HT H fin=>?_;exact zG
     clear H;intro a w G rW H hv;have H:=H.aM (hv 12 40 rfl rfl) rfl;clear hv;refine kH H (Ra rfl ?_);clear H;intro a H;refine aD ⟨rfl,?_⟩;refine cZ _ _ ?_;clear cZ;refine Ck H rfl (aI c1) ?_;refine bD (fun _ dQ=>?_);rw [aG (by rw [(hpk (by omega)).2,c1])] at heq;refine kP H (SC (aX dQ rfl ?_));clear H dQ;exact JE
    skip;refine dI hmx [[],[0],[0,1],[0,1,2],ra 0 4,[0,1,2],[0,1,2],[0,1,2,6],[0,1,2,5,6,7],[0,1,2,5,6,7,8],[0,1,2,5,6,7,8,9],ra 0 11,ra 0 12,ra 0 13] [13] (by kernel_rfl) [_,_,_,_,vi l[k].key,_,_,vi ((k - 1:Nat):Int),_,_,_,_,_] H (ay (Z0 rfl (Rm rfl)) (Z1 0 28 rfl (Rc rfl)) (Z1 1 29 rfl (Rm rfl)) (Z1 2 30 rfl (YF xL (aI c0) rfl)) (ay (Z2 3 31 2 30 rfl (YO aC 0 (aI c0) rfl)) (Z1 2 30 rfl (YM (aI c0) rfl)) (Z1 2 30 rfl (YM (aI c0) rfl)) ?_ (ay (Z3 5 33 7 35 2 30 rfl (YI gT iq (aI c0) rfl rfl)) (Z2 8 36 2 30 rfl (YF xL (aI c0) rfl)) (X2 9 37 2 30 rfl fun hG=>YR aC (aI c0) rfl (aF hG (aF oU (hpk (by omega)).1))) (Z3 4 32 10 38 2 30 rfl (YC (aI c0) rfl)) (bF (Z2 2 30 11 39 rfl (Pt (aI c0) rfl)) (bF (bR rfl) cK))))) ?_
    ·refine dY 6 34 2 30 rfl rfl fun _ a w G1 hG HT H fin=>?_;exact zG
    clear H;intro a w G rW H hv;have H:=H.aM (hv 12 40 rfl rfl) rfl;clear hv;refine kH H (Ra rfl ?_);clear H;intro a H;refine aD ⟨rfl,?_⟩;refine cZ _ _ ?_;clear cZ;refine pO H rfl (aT c1) ?_;refine bD (fun _ dR=>?_)
    have q1:¬ (0 < (k:Int)∧l[k].key=pk):=by first|exact fun h=>c1 h.2|exact fun h=>c0 h.1
    rw [av (fun h=>q1 (by
     by_cases h0:0 < k
     ·exact Pv
     rw [RH (by omega)] at h
     cases h))] at heq
    by_cases c3:l[k].key < pk
    ·skip;refine dI hmx [[],[0],[0,1],[0,1,2],ra 0 4,[0,1,2],[0,1,2],[0,1,2,6],[0,1,2,5,6,7],[0,1,2,5,6,7,8],[0,1,2,5,6,7,8,9],ra 0 11,ra 0 12,ra 0 13] [13] (by kernel_rfl) [_,_,_,_,vi l[k].key,_,_,vi ((k - 1:Nat):Int),_,_,vi pk,_,_] H (ay (Z0 rfl (Rm rfl)) (Z1 0 42 rfl (Rc rfl)) (Z1 1 43 rfl (Rm rfl)) (Z1 2 44 rfl (YF xL (aI c0) rfl)) (ay (Z2 3 45 2 44 rfl (YO aC 0 (aI c0) rfl)) (Z1 2 44 rfl (YM (aI c0) rfl)) (Z1 2 44 rfl (YM (aI c0) rfl)) ?_ (ay (Z3 5 47 7 49 2 44 rfl (YI gT iq (aI c0) rfl rfl)) (Z2 8 50 2 44 rfl (YF xL (aI c0) rfl)) ?_ (Z3 4 46 10 52 2 44 rfl (YC (aI c0) rfl)) (bF (Z2 2 44 11 53 rfl (Pt (aI c0) rfl)) (bF (bR rfl) cK))))) ?_
     ·refine dY 6 48 2 44 rfl rfl fun _ a w G1 hG HT H fin=>?_;exact zG
     ·exact abH
     clear H;intro a w G wK H hv;have H:=H.aM (hv 12 54 rfl rfl) rfl;clear hv;refine kH H (Ra rfl ?_);clear H;intro a H;refine aD ⟨rfl,?_⟩;refine dR _ _ ?_;clear dR;refine Ck H rfl (aI c3) ?_;refine bD (fun _ dK=>?_);rw [aG (by rw [(hpk (by omega)).2];exact aI c3)] at heq;refine kP H (SC (aX dK rfl ?_));clear H dK;exact JE
    skip;refine dI hmx [[],[0],[0,1],[0,1,2],ra 0 4,[0,1,2],[0,1,2],[0,1,2,6],[0,1,2,5,6,7],[0,1,2,5,6,7,8],[0,1,2,5,6,7,8,9],ra 0 11,ra 0 12,ra 0 13] [13] (by kernel_rfl) [_,_,_,_,vi l[k].key,_,_,vi ((k - 1:Nat):Int),_,_,vi pk,_,_] H (ay (Z0 rfl (Rm rfl)) (Z1 0 42 rfl (Rc rfl)) (Z1 1 43 rfl (Rm rfl)) (Z1 2 44 rfl (YF xL (aI c0) rfl)) (ay (Z2 3 45 2 44 rfl (YO aC 0 (aI c0) rfl)) (Z1 2 44 rfl (YM (aI c0) rfl)) (Z1 2 44 rfl (YM (aI c0) rfl)) ?_ (ay (Z3 5 47 7 49 2 44 rfl (YI gT iq (aI c0) rfl rfl)) (Z2 8 50 2 44 rfl (YF xL (aI c0) rfl)) ?_ (Z3 4 46 10 52 2 44 rfl (YC (aI c0) rfl)) (bF (Z2 2 44 11 53 rfl (Pt (aI c0) rfl)) (bF (bR rfl) cK))))) ?_
    ·refine dY 6 48 2 44 rfl rfl fun _ a w G1 hG HT H fin=>?_;exact zG
    ·exact abH
    clear H;intro a w G wK H hv;have H:=H.aM (hv 12 54 rfl rfl) rfl;clear hv;refine kH H (Ra rfl ?_);clear H;intro a H;refine aD ⟨rfl,?_⟩;refine dR _ _ ?_;clear dR;refine pO H rfl (aT c3) ?_;refine iB ?_;refine ⟨_,by exact H.sub ⟨rfl,rfl,rfl,rfl,rfl,rfl,aB⟩,?_⟩
    have q2:¬ (0 < (k:Int)∧l[k].key < pk):=by first|exact fun h=>c3 h.2|exact fun h=>c0 h.1
    rw [av (fun h=>q2 (by
     by_cases h0:0 < k
     ·exact Pb
     rw [RH (by omega)] at h
     cases h))] at heq
    exact aaE
   skip;refine dI hmx [[],[0],[0,1],[0,1,2],ra 0 4,[0,1,2],[0,1,2],[0,1,2,6],[0,1,2,5,6,7],[0,1,2,5,6,7,8],[0,1,2,5,6,7,8,9],ra 0 11,ra 0 12,ra 0 13] [13] (by kernel_rfl) [_,_,_,undef,undef,undef,undef,undef,undef,undef,undef,undef,_] H (ay (Z0 rfl (Rm rfl)) (Z1 0 28 rfl (Rc rfl)) (Z1 1 29 rfl (Rm rfl)) (aU 2 (aT c0) rfl rfl) (ay (aU 2 (aT c0) rfl rfl) (aU 2 (aT c0) rfl rfl) (aU 2 (aT c0) rfl rfl) (aU 2 (aT c0) rfl rfl) (ay (aU 2 (aT c0) rfl rfl) (aU 2 (aT c0) rfl rfl) (aU 2 (aT c0) rfl rfl) (aU 2 (aT c0) rfl rfl) (bF (Z2 2 30 11 39 rfl (Pf (aT c0) rfl)) (bF (bR rfl) cK))))) ?_
   clear H;intro a w G rW H hv;have H:=H.aM (hv 12 40 rfl rfl) rfl;clear hv;refine kH H (Ra rfl ?_);clear H;intro a H;refine aD ⟨rfl,?_⟩;refine cZ _ _ ?_;clear cZ;refine pO H rfl rfl ?_;refine bD (fun _ dX=>?_)
   have q1:¬ (0 < (k:Int)∧l[k].key=pk):=by first|exact fun h=>c1 h.2|exact fun h=>c0 h.1
   rw [av (fun h=>q1 (by
    by_cases h0:0 < k
    ·exact Pv
    rw [RH (by omega)] at h
    cases h))] at heq
   refine dI hmx [[],[0],[0,1],[0,1,2],ra 0 4,[0,1,2],[0,1,2],[0,1,2,6],[0,1,2,5,6,7],[0,1,2,5,6,7,8],[0,1,2,5,6,7,8,9],ra 0 11,ra 0 12,ra 0 13] [13] (by kernel_rfl) [_,_,_,undef,undef,undef,undef,undef,undef,undef,undef,undef,_] H (ay (Z0 rfl (Rm rfl)) (Z1 0 42 rfl (Rc rfl)) (Z1 1 43 rfl (Rm rfl)) (aU 2 (aT c0) rfl rfl) (ay (aU 2 (aT c0) rfl rfl) (aU 2 (aT c0) rfl rfl) (aU 2 (aT c0) rfl rfl) (aU 2 (aT c0) rfl rfl) (ay (aU 2 (aT c0) rfl rfl) (aU 2 (aT c0) rfl rfl) (aU 2 (aT c0) rfl rfl) (aU 2 (aT c0) rfl rfl) (bF (Z2 2 44 11 53 rfl (Pf (aT c0) rfl)) (bF (bR rfl) cK))))) ?_
   clear H;intro a w G wK H hv;have H:=H.aM (hv 12 54 rfl rfl) rfl;clear hv;refine kH H (Ra rfl ?_);clear H;intro a H;refine aD ⟨rfl,?_⟩;refine dX _ _ ?_;clear dX;refine pO H rfl rfl ?_;refine iB ?_;refine ⟨_,by exact H.sub ⟨rfl,rfl,rfl,rfl,rfl,rfl,aB⟩,?_⟩
   have q2:¬ (0 < (k:Int)∧l[k].key < pk):=by first|exact fun h=>c3 h.2|exact fun h=>c0 h.1
   rw [av (fun h=>q2 (by
    by_cases h0:0 < k
    ·exact Pb
    rw [RH (by omega)] at h
    cases h))] at heq
   exact aaE
  clear H;intro g2 a w hI H;obtain ⟨heq,iF⟩:=hI;replace hrow:=fun j u hj=>aF iF (hrow j u hj);dsimp only [lca,bJ] at H;refine kP H (SR fun _ fM=>bq xL aC 0 rfl rfl (bq P9 aC 0 rfl rfl ?_));clear H;intro a H;refine s_call aeG H wn rfl (ady _ _ H.ro l[k].key l[k].value) rfl ?_;clear H;rintro v59 G59 a w rfl atW H;refine kH H (aj fM rfl (SR fun _ eP=>Rm rfl (Rc rfl (Kz eP (Cd rfl ?_ ?_))))) <;> clear H fM eP
  ·intro Hl a H
   try have p61:=dT Hl
   refine kP H (SR fun _ gB=>Rm rfl (aj gB rfl ?_));clear H gB;exact JE
  intro Hl a H
  try have p61:=dF Hl
  refine kP H (Kc aW (SC (Rd rfl (Rm rfl ?_))));clear H aW;intro a H;refine aD ?_;refine dG ((k+1,G59)) (by exact (H.eD (Pl:=[_]) (dN:=[]) [] (by decide) rfl).sub ⟨rfl,rfl,rfl,rfl,rfl,aB⟩) ?_
  (try dsimp only);exact ⟨by omega,by rw [aG (by simpa using p61)] at heq;exact heq,fun b o h=>atW b o (iF b o (hgm b o h))⟩
 intro fE a H
 try have og:=dF fE
 refine dP ?_;refine K6 _ _ ?_;clear K6;refine kP H (SR fun _ iH=>aj iH rfl ?_);clear H iH;intro a H;refine lr H results129 rfl ?_
 exact aaC
def kU (l:List aL) (k:Int):Int × Bool:=if oI (l.map aL.key) k=true then ((l.getD (gM (l.map aL.key) k) ⟨0,0⟩).value,true) else (0,false)
theorem YW (G:GH) (w0:World) (hG:Hold G w0) (l:List aL) (t:Int) (v:ah) (hv:au G (.sl 2 (l.map aL.dat)) v) (hl:l.length<=4294967296) :
  Calls prog 240 #[v,vi t] w0 (bK w0 G fun u G'=>u=.tuple #[vi (gM (l.map aL.key) t),.bool (oI (l.map aL.key) t)]):=by
 obtain ⟨A,c,rfl,hc1,hc2,-⟩:=hv.slice;rw [bQ] at *;refine eN [(0,_),(1,_)] func240 rfl ntmps240 rfl rfl hG ?_;intro a H;refine kP H (SR fun _ K1=>Ra rfl (aj K1 rfl (SR fun _ K2=>Rm rfl (Rm rfl ?_))));clear H K1;intro a H;refine s_call aqa H wn rfl (amj _ _ H.ro l t _ hv hl) rfl ?_;clear H;rintro v8 G8 a w rfl rH H;(iterate 2 refine mg H wn rfl rfl rfl ?_;clear H;intro a H);refine kH H (Ra rfl (aj K2 rfl ?_));clear H K2;intro a H;refine eO ?_;refine (jU H results240 (.cons (fu H rfl) (.cons (fu H rfl) .nil)) ?_).1;exact wz
theorem arP (G:GH) (w0:World) (hG:Hold G w0) (l:List aL) (t:Int) (v:ah) (hv:au G (.sl 2 (l.map aL.dat)) v) (hl:l.length<=4294967296) :
  Calls prog 213 #[v,vi t] w0 (bK w0 G fun u G'=>u=.tuple #[vi (kU l t).1,.bool (kU l t).2]):=by
 obtain ⟨A,c,rfl,hc1,hc2,-⟩:=hv.slice;rw [bQ] at *;refine eN [(0,_),(1,_)] func213 rfl ntmps213 rfl rfl hG ?_;intro a H;refine kP H (SR fun _ K1=>Ra rfl (aj K1 rfl (SR fun _ K2=>Rm rfl (Rm rfl ?_))));clear H K1;intro a H;refine s_call Vw H wn rfl (YW _ _ H.ro l t _ hv hl) rfl ?_;clear H;rintro v11 zq a w rfl DW H;obtain ⟨n,hn⟩:∃ n,n=gM (l.map aL.key) t:=⟨_,rfl⟩;obtain ⟨q,hq⟩:∃ q,q=oI (l.map aL.key) t:=⟨_,rfl⟩;rw [<- hn,<- hq] at H;refine kH H (Rm rfl ?_);clear H;intro a H;(iterate 2 refine mg H wn rfl rfl rfl ?_;clear H;intro a H);refine kH H (Ra rfl (aj K2 rfl (SQ fun _ K3=>SR fun _ K4=>Rm rfl (Rn rfl (Kz K4 (Cd rfl ?_ ?_)))))) <;> clear H K2 K4
 ·intro jK a H
  refine kP H (SR fun _ K5=>Ra rfl (aj K5 rfl ?_));clear H K5;intro a H;refine eO ?_;refine (jU H results213 (.cons (fu H rfl) (.cons (fu H rfl) .nil)) ?_).1;exact H.rt (by rw [kU,av (by rw [<- hq];simpa using jK)])
 intro jK a H
 try have tu:=dF jK
 have hlt:n < l.length:=by have:=Qn (ks:=l.map aL.key) (t:=t) (by rw [<- hq];simpa using jK);rw [<- hn] at this;simpa using this
 obtain ⟨b,o,rfl,hrow⟩:=IG (hv.mono DW) hlt;have r1:aH zq b (o+n*2+1)=some (vi l[n].value):=hrow 1 _ rfl;refine kP H (Kc K3 (SR fun _ K6=>Rm rfl (Rm rfl (Ri gT iq rfl rfl (Rf P9 rfl (Rg aC rfl (by assumption) ?_))))));clear H K3;intro a H;refine kH H (Ra rfl (aj K6 rfl ?_));clear H K6;intro a H;refine eO ?_;refine (jU H results213 (.cons (fu H rfl) (.cons (fu H rfl) .nil)) ?_).1;exact H.rt (by rw [kU,aG (by rw [<- hq];simpa using jK),<- hn,List.getD_eq_getElem?_getD,dV hlt];rfl)
theorem Vr:aQ 159:=aR func159 rfl
theorem apO:aQ 241:=aR func241 rfl
theorem aAq:qK prog 187 [(0,1),(1,1)] [.int .i64 0,.int .i64 0]:=⟨by kernel_rfl,by kernel_rfl⟩
theorem apP:aQ 242:=aR func242 rfl
theorem adb {p:Prop} (h:p:=by
 rw [seg,hA,List.take_append_of_le_length (by rw [<- hA];simp;omega),nU (by rw [<- hA];simp;omega)]):p:=h
theorem azF {cur x ys A:List ah} {p q:Nat} (hA:cur.take p=A) (hp:p<=cur.length) (hx:x.length=q) (hl:p+q+ys.length<=cur.length):(seg (seg cur p x) (p+q) ys).take (p+q+ys.length)=A++x++ys∧(seg (seg cur p x) (p+q) ys).length=cur.length:=by
 have h1:(seg cur p x).length=cur.length:=FH (by omega);refine ⟨?_,by rw [FH (by rw [h1];omega),h1]⟩
 have h2:(seg cur p x).take (p+q)=A++x:=by
  exact adb
 rw [seg,h2,List.take_append_of_le_length (by rw [<- hA];simp;omega),nU (by rw [<- hA];simp;omega)]
theorem azG {cur x ys A:List ah} {p q:Nat} (hA:cur.take p=A) (hp:p<=cur.length) (hx:x.length=q) (hl:p+q+ys.length<=cur.length):(seg (seg cur (p+q) ys) p x).take (p+q+ys.length)=A++x++ys∧(seg (seg cur (p+q) ys) p x).length=cur.length:=by
 have h1:(seg cur (p+q) ys).length=cur.length:=FH (by omega);refine ⟨?_,by rw [FH (by rw [h1];omega),h1]⟩
 have h2:(seg cur (p+q) ys).take p=A:=by
  rw [seg,iZ,List.take_append_of_le_length (by simp;omega),List.take_take,Nat.min_eq_left (by omega),hA]
 have h3:(seg cur (p+q) ys).drop (p+q)=ys++cur.drop (p+q+ys.length):=by
  rw [seg,iZ,List.drop_append_of_le_length (by simp;omega),pJ (by simp;omega),jR]
 rw [seg,hx,h2,h3,<- iZ,List.take_append_of_le_length (by rw [<- hA];simp;omega),nU (by rw [<- hA];simp;omega)]
theorem azE {cur ys A:List ah} {p:Nat} (hA:cur.take p=A) (hl:p+ys.length<=cur.length):(seg cur p ys).take (p+ys.length)=A++ys:=by
 exact adb
theorem aAc {b o lo n c sz o' n' c':Nat} (h:¬ c=lo) (ho:o+lo*sz=o') (hn:n - lo=n') (hc:c - lo=c'):Value.slice (if c=lo then some ⟨b,o,none⟩ else (some ⟨b,o,none⟩:Option Addr).map (·.add (lo*sz))) (n - lo) (c - lo)=.slice (some ⟨b,o',none⟩) n' c':=by
 subst ho hn hc;rw [av h,wo,add_lit]
theorem aaG {p:Prop} (h:p:=by
 exact fin H iJ (aAc (by omega) (by omega) (by omega) rfl)):p:=h
theorem abn {p:Prop} (h:p:=by
 refine CY gT iq (i+1) H wn rfl rfl (by omega) (by omega) rfl ?_;clear H;intro a H;exact aaG):p:=h
theorem abu {p:Prop} (h:p:=by
 refine CY gT iq i H wn rfl rfl rfl (by omega) rfl ?_;clear H;intro a H;exact aaG):p:=h
theorem abA {p:Prop} (h:p:=by
 rw [List.getElem?_drop,<- hct,uH] at hj
 split at hj
 ·exact hj
 cases hj):p:=h
set_option maxHeartbeats 4000000 in
theorem avD (G:GH) (w0:World) (Lo:OL) (hO:gH G Lo w0) (v:ah) (n i:Nat) (xs:List ah) (hrw:cu 187 2 v n xs Lo) (hx1:xs.all Value.oneCell'=true) (hi:i<=n) (hn:n<=4294967296) (bv:Nat) (x0 x1:ah) (hb:G bv=some (.cells #[x0,x1] 187 (0,0))) (h0:x0.oneCell'=true) (h1:x1.oneCell'=true) :
  Calls prog 241 #[v,vi i,.slice (some ⟨bv,0,none⟩) 1 1] w0 (fU w0 G Lo fun u G' L'=>cu 187 2 u (n+1) (xs.take (i*2)++[x0,x1]++xs.drop (i*2)) L'):=by
 have hml:maxLen=9223372036854775807:=rfl;obtain ⟨A,c,rfl,hc1,hc2⟩:=hrw.shape;have hxl:=hrw.1
 have hx2:[x0,x1].all Value.oneCell'=true:=by simp [h0,h1]
 have hgx:∀ {w:World} {G':GH},Hold G' w->(∀ b o,G b=some o->G' b=some o)->∀ j u,[x0,x1][j]?=some u->w.cell? ⟨bv,0+j,none⟩=some u:=fun {w} {G'} hG hm j u hj=>by
  simp [World.cell?,hG _ _ (hm _ _ hb),<- hj]
 refine jc (N:=95) (T:=[(0,_),(1,_),(2,_)]) func241 rfl ntmps241 rfl rfl hO ?_;intro a H;refine kP H (SR fun _ K1=>aj K1 rfl (SR fun _ K2=>Rm rfl (Rm rfl ?_)));clear H K1;intro a H;refine CY gT iq i H wn rfl rfl rfl hi rfl ?_;clear H;intro a H;refine K2 _ _ ?_;clear K2;refine kP H (SR fun _ K3=>Rm rfl (Rl gT rfl (aj K3 rfl (SQ fun _ K4=>SR fun _ K5=>Rm rfl (Rc rfl (Kz K5 (Cd rfl ?_ ?_))))))) <;> clear H K3 K5
 ·intro h16 a H
  try have p16:=dT h16
  exact absurd p16 (by decide)
 intro h16 a H
 try have p16:=dF h16
 refine kP H (Kc K4 (SR fun _ K6=>Rm rfl (Rl gT rfl (aj K6 rfl (SQ fun _ K7=>SR fun _ K8=>Rm rfl (Rm rfl (Rc rfl (Kz K8 (Cd rfl ?_ ?_))))))))) <;> clear H K4 K6 K8
 ·intro h22 a H
  try have oK:=dT h22
  refine kP H (SR fun _ K9=>Rm rfl (Rm rfl ?_));clear H;intro a H;refine oh (Li:=[]) (Lo:=Lo) (news:=[x0,x1]) gT iq rfl rfl H wn rfl rfl hrw rfl (hgx H.ro fun _ _ h=>h) hx2 (by omega) (by omega) rfl ?_;clear H;intro v25 aBG a w auA H;dsimp only [List.nil_append] at H;refine kH H (aj K9 rfl ?_);clear H K9;intro a H;refine lr H results241 rfl ?_
  exact H.hp.fQ (by
   have e:i=n:=by omega
   have e1:xs.take (i*2)=xs:=nU (by omega);have e2:xs.drop (i*2)=[]:=pJ (by omega)
   rw [e1,e2,ig];exact auA)
 intro h22 a H
 try have oK:=dF h22
 have hlt:i < n:=by omega
 obtain ⟨b,cap,cur,he,rfl,-,-,hcs,hct⟩:=hrw.2.resolve_left (fun h=>by omega)
 injection he with e1 e2 e3
 subst e1 e3;obtain ⟨cur,rfl⟩:∃ l:List ah,cur=l.toArray:=⟨cur.toList,by simp⟩
 simp only [List.size_toArray,List.toList_toArray] at hcs hct
 have Qv:cur.take (i*2)=xs.take (i*2):=by rw [<- hct,List.take_take,Nat.min_eq_left (by omega)]
 have hcd:∀ j u,(xs.drop (i*2))[j]?=some u->cur[i*2+j]?=some u:=fun j u hj=>by
  exact abA
 have atp:∀ j u,(xs.take (i*2))[j]?=some u->cur[j]?=some u:=fun j u hj=>by
  rw [<- Qv,uH] at hj
  split at hj
  ·exact hj
  cases hj
 have hyl:(xs.drop (i*2)).length=(n - i)*2:=by rw [List.length_drop,hxl];omega
 have hy1:(xs.drop (i*2)).all Value.oneCell'=true:=jI.2 fun u hu=>jI.1 hx1 u (List.mem_of_mem_drop hu)
 have hbne:bv≠b:=fun e=>by have:=hO.sep (b,_) (List.mem_singleton_self _);rw [<- e,hb] at this;cases this
 refine kP H (Kc K7 (SQ fun _ aW=>SR fun _ bM=>Rm rfl (Rm rfl (Rd rfl (Rm rfl ?_)))));clear H K7;intro a H;refine aze gT H wn rfl rfl ?_;clear H;intro a H;refine kH H (Rc rfl (Kz bM (Cd rfl ?_ ?_))) <;> clear H bM
 ·intro h31 a H
  try have p31:=dT h31
  refine kP H (SR fun _ bU=>Rm rfl (Rm rfl ?_));clear H;intro a H;refine IL gT iq i H wn rfl rfl rfl (by omega) rfl ?_;clear H;intro a H;refine kH H (Rm rfl (Rm rfl (Rd rfl (Rm rfl (Rs rfl ?_)))));clear H;intro a H;refine aza (m:=n+1 - i) gT mh iq rfl rfl (xs.take (i*2)) H wn rfl rfl (by omega) (by rw [List.length_take,hxl];omega) (fun j u hj=>H.hp.wS 0 rfl (by rw [gI];simpa using atp j u hj)) (by omega) (by omega) (by omega) (by omega) rfl ?_;clear H;intro b2 cap2 EI a w hq1 hq2 hq3 hq4 H;rw [show i+(n+1 - i)=n+1 by omega] at hq1 H;refine kH H (aj bU rfl (SR fun _ bY=>Rm rfl (Rm rfl ?_)));clear H bU;intro a H;refine CY gT iq i H wn rfl rfl rfl (by omega) rfl ?_;clear H;intro a H;rw [dw,wo,add_lit,gI] at H;refine kH H (Rm rfl ?_);clear H;intro a H;refine Sl gT iq 0 1 [x0,x1] H wn rfl rfl rfl (by omega) rfl (hgx H.ro fun _ _ h=>h) (by simp;omega) hx2 rfl ?_;clear H;intro a w H;dsimp only [List.set] at H;obtain ⟨auM,auN⟩:=azF (x:=[x0,x1]) (ys:=xs.drop (i*2)) (q:=2) hq4 (by omega) rfl (by rw [hyl];omega);refine bY _ _ ?_;clear bY;refine bD (fun _ cZ=>?_);refine dI hmx [[],[],[],[1,2],ra 0 4,[],[],[5,6],ra 0 8] [8] (by kernel_rfl) [_,_,_,_,.slice (some ⟨b2,i*2+2,none⟩) (n - i) (cap2 - (i+1)),_,_,.slice (some ⟨b,i*2,none⟩) (n - i) (c - i)] H (ay (Z0 rfl (Rm rfl)) (Z0 rfl (Rm rfl)) (Z0 rfl (Rm rfl)) (Z2 1 47 2 48 rfl (Rd rfl)) (ay ?_ (Z0 rfl (Rm rfl)) (Z0 rfl (Rm rfl)) ?_ (bF (bR rfl) cK))) ?_
  ·refine dY 0 46 3 49 rfl rfl fun _ a w G1 hG HT H fin=>?_;exact abn
  ·refine dY 5 51 6 52 rfl rfl fun _ a w G1 hG HT H fin=>?_;exact abu
  clear H;intro a w G sU H hv;have H:=H.aM (hv 4 50 rfl rfl) rfl;have H:=H.aM (hv 7 53 rfl rfl) rfl;clear hv;refine Sl gT iq 0 (n - i) (xs.drop (i*2)) H wn rfl rfl rfl (by omega) hyl (fun j u hj=>H.hp.wS 1 rfl (by simpa using hcd j u hj)) (by rw [FH (by simp;omega),hyl];omega) hy1 rfl ?_;clear H;intro a w H;dsimp only [List.set] at H;refine aD ⟨rfl,?_⟩;refine cZ _ _ ?_;clear cZ;exact kP H (SR fun _ dQ=>Rm rfl (aj dQ rfl (LR results241 rfl fun H=>H.hp.jY (L':=[_]) (List.Sublist.cons_cons _ (List.nil_sublist _)) ⟨by simp [List.length_take,hxl,hyl];omega,.inr ⟨b2,cap2,_,rfl,rfl,hq1,hq2,by rw [List.size_toArray,auN,hq3],by rw [List.toList_toArray];rw [<- auM];congr 1;rw [hyl];omega⟩⟩)))
 intro h31 a H
 try have p31:=dF h31
 refine kP H (Kc aW (SR fun _ dR=>Rm rfl (Rm rfl (Rm rfl (Rd rfl ?_)))));clear H aW;intro a H;refine IL gT iq (n+1) H wn rfl rfl (by omega) (by omega) rfl ?_;clear H;intro a H;refine kH H (aj dR rfl (SQ fun _ dK=>SR fun _ dX=>Rm rfl (Rm rfl (Rm rfl (Rm rfl (Rd rfl ?_))))));clear H dR;intro a H;refine CY gT iq (i+1) H wn rfl rfl (by omega) (by omega) rfl ?_;clear H;intro a H;rw [dw,wo,add_lit,gI] at H;refine azo (t:=23) (tr:=4) func262 (by kernel_rfl) (by kernel_rfl) (by kernel_rfl) (by kernel_rfl) gT iq H wn rfl rfl (H.ro _ _ hb) (H.hp.own (b,_) (List.mem_singleton_self _)) hbne (by rw [List.size_toArray,hcs];omega) rfl ?_;clear H;intro a H;refine kH H (Rn rfl (Kz dX (Cd rfl ?_ ?_))) <;> clear H dX
 ·intro h68 a H
  try have p68:=dT h68
  refine bD (fun _ fM=>?_);refine dI hmx [[],[],[],[1,2],ra 0 4,[],[],[5,6],ra 0 8] [8] (by kernel_rfl) [_,_,_,_,.slice (some ⟨b,i*2+2,none⟩) (n - i) (c - (i+1)),_,_,.slice (some ⟨b,i*2,none⟩) (n+1 - i) (c - i)] H (ay (Z0 rfl (Rm rfl)) (Z0 rfl (Rm rfl)) (Z0 rfl (Rm rfl)) (Z2 1 70 2 71 rfl (Rd rfl)) (ay ?_ (Z0 rfl (Rm rfl)) (Z0 rfl (Rm rfl)) ?_ (bF (bR rfl) cK))) ?_
  ·refine dY 0 69 3 72 rfl rfl fun _ a w G1 hG HT H fin=>?_;exact abn
  ·refine dY 5 74 6 75 rfl rfl fun _ a w G1 hG HT H fin=>?_;exact abu
  clear H;intro a w G AV H hv;have H:=H.aM (hv 4 73 rfl rfl) rfl;have H:=H.aM (hv 7 76 rfl rfl) rfl;clear hv;refine Sl gT iq 0 (n - i) (xs.drop (i*2)) H wn rfl rfl rfl (by omega) hyl (fun j u hj=>H.hp.wS 0 rfl (by simpa using hcd j u hj)) (by rw [hyl];omega) hy1 rfl ?_;clear H;intro a w H;dsimp only [List.set] at H;obtain ⟨auO,auP⟩:=azG (x:=[x0,x1]) (ys:=xs.drop (i*2)) (q:=2) Qv (by omega) rfl (by rw [hyl];omega);refine aD ⟨rfl,?_⟩;refine fM _ _ ?_;clear fM;refine kP H (SR fun _ eP=>Rm rfl (Rm rfl ?_));clear H;intro a H;refine CY gT iq i H wn rfl rfl rfl (by omega) rfl ?_;clear H;intro a H;rw [dw,wo,add_lit,gI] at H;refine kH H (Rm rfl ?_);clear H;intro a H;refine Sl gT iq 0 1 [x0,x1] H wn rfl rfl rfl (by omega) rfl (hgx H.ro AV) (by rw [FH (by rw [hyl];omega)];simp;omega) hx2 rfl ?_;clear H;intro a w H;dsimp only [List.set] at H;refine eP _ _ ?_;clear eP;exact kP H (SR fun _ gB=>Rm rfl (aj gB rfl (LR results241 rfl fun H=>H.hp.fQ ⟨by simp [List.length_take,hxl,hyl];omega,.inr ⟨b,c,_,rfl,rfl,by omega,hc2,by rw [List.size_toArray,auP,hcs],by rw [List.toList_toArray];rw [<- auO];congr 1;rw [hyl];omega⟩⟩)))
 intro h68 a H
 exact absurd (show true=false from h68) (by decide)
set_option maxHeartbeats 4000000 in
theorem anV (G:GH) (w0:World) (Lo:OL) (hO:gH G Lo w0) (v:ah) (n i:Nat) (xs:List ah) (hrw:cu 187 2 v n xs Lo) (hx1:xs.all Value.oneCell'=true) (hi:i < n) (hn:n<=4294967296) :
  Calls prog 242 #[v,vi i,vi ((i:Int)+1)] w0 (fU w0 G Lo fun u G' L'=>cu 187 2 u (n - 1) (xs.take (i*2)++xs.drop ((i+1)*2)) L'):=by
 have hml:maxLen=9223372036854775807:=rfl;have hxl:=hrw.1;obtain ⟨b,c,cur,rfl,rfl,hc1,hc2,hcs,hct⟩:=hrw.2.resolve_left (fun h=>by omega);obtain ⟨cur,rfl⟩:∃ l:List ah,cur=l.toArray:=⟨cur.toList,by simp⟩
 simp only [List.size_toArray,List.toList_toArray] at hcs hct
 have Qv:cur.take (i*2)=xs.take (i*2):=by rw [<- hct,List.take_take,Nat.min_eq_left (by omega)]
 have hcd:∀ j u,(xs.drop ((i+1)*2))[j]?=some u->cur[(i+1)*2+j]?=some u:=fun j u hj=>by
  exact abA
 have hyl:(xs.drop ((i+1)*2)).length=(n - (i+1))*2:=by rw [List.length_drop,hxl];omega
 have hy1:(xs.drop ((i+1)*2)).all Value.oneCell'=true:=jI.2 fun u hu=>jI.1 hx1 u (List.mem_of_mem_drop hu)
 obtain ⟨o2,ho2,ho3⟩:∃ o2,(if c=i+1 then some ⟨b,0,none⟩ else (some ⟨b,0,none⟩:Option Addr).map (·.add ((i+1)*2)))=some ⟨b,o2,none⟩∧(i+1 < n->o2=(i+1)*2):=by
  by_cases h:c=i+1
  ·rw [aG h];exact ⟨0,rfl,fun h=>by omega⟩
  rw [av h,wo,add_lit,gI];exact ⟨_,rfl,fun _=>rfl⟩
 have hsd:=azE (ys:=xs.drop ((i+1)*2)) Qv (by rw [hyl];omega);rw [hyl,show i*2+(n - (i+1))*2=(n - 1)*2 by omega] at hsd;refine jc (N:=33) (T:=[(0,_),(1,_),(2,_)]) func242 rfl ntmps242 rfl rfl hO ?_;intro a H;refine kP H (SR fun _ K1=>aj K1 rfl (SR fun _ K2=>Rm rfl (Rm rfl (Rm rfl (Rm rfl (Rl gT rfl ?_))))));clear H K1;intro a H;refine azs gT iq i (i+1) n H wn rfl rfl rfl rfl rfl (by omega) rfl (by omega) (by omega) hc1 rfl ?_;clear H;intro v13 a H;refine K2 _ _ ?_;clear K2;refine kP H (SQ fun _ K3=>SR fun _ K4=>Rm rfl (Rm rfl (Rc rfl (Kz K4 (Cd rfl ?_ ?_))))) <;> clear H K4
 ·intro h16 a H
  try have p16:=dT h16
  exfalso;omega
 intro h16 a H
 try have p16:=dF h16
 refine kP H (Kc K3 (SR fun _ K5=>Rm rfl (Rl gT rfl (aj K5 rfl (SQ fun _ K6=>?_)))));clear H K3 K5;intro a H;refine dI hmx [[],[],[0,1],[],[],[3,4],ra 0 6,ra 0 7] [6,7] (by kernel_rfl) [_,_,.slice (some ⟨b,0,none⟩) i c,_,_,.slice (some ⟨b,o2,none⟩) (n - (i+1)) (c - (i+1))] H (ay (Z0 rfl (Rm rfl)) (Z0 rfl (Rm rfl)) ?_ (Z0 rfl (Rm rfl)) (ay (Z0 rfl (Rm rfl)) ?_ (bR rfl) (bR rfl) cK)) ?_
 ·refine dY 0 20 1 21 rfl rfl fun _ a w G1 hG HT H fin=>?_;refine IL gT iq i H wn rfl rfl rfl (by omega) rfl ?_;exact jk
 ·refine dY 3 23 4 24 rfl rfl fun _ a w G1 hG HT H fin=>?_;refine CY gT iq (i+1) H wn rfl rfl (by omega) (by omega) rfl ?_;clear H;intro a H;exact fin H iJ (dh (fun A=>Value.slice A (n - (i+1)) (c - (i+1))) ho2)
 clear H;intro a w G lF H hv;have H:=H.aM (hv 2 22 rfl rfl) rfl;have H:=H.aM (hv 5 25 rfl rfl) rfl;clear hv
 refine ayZ gT iq 0 (xs.drop ((i+1)*2)) H wn rfl rfl rfl hyl (fun j u hj=>H.hp.wS 0 rfl (by
  have hj2:=(jQ.1 hj).1;rw [hyl] at hj2
  rw [ho3 (by omega)];simpa using hcd j u hj)) hy1 (by omega) (by rw [hyl];omega) rfl ?_;clear H;intro a w H
 dsimp only [List.set] at H;rw [show i+(n - (i+1))=n - 1 by omega] at H;refine kH H (Ra rfl ?_);clear H;intro a H;refine aD ⟨rfl,?_⟩;refine K6 _ _ ?_;clear K6;refine kP H (SR fun _ K7=>Rm rfl (Rm rfl (Rl gT rfl (Rm rfl ?_))));clear H;intro a H;refine azr gT iq (n - 1) n H wn rfl rfl rfl rfl rfl (by omega) (by omega) rfl ?_;clear H;intro a H;rw [dw,wo,add_lit,gI,show n - (n - 1)=1 by omega] at H;refine ajr gT iq rfl rfl 0 H wn rfl rfl (by omega) (by rw [FH (by rw [hyl];omega)];omega) ?_;clear H;intro c2 w hq1 hq2 H;dsimp only [List.set] at H;refine K7 _ _ ?_;clear K7;exact kP H (SR fun _ K8=>Rm rfl (aj K8 rfl (LR results242 rfl fun H=>H.hp.fQ ⟨by simp [List.length_take,hxl];omega,.inr ⟨b,c,_,rfl,rfl,by omega,hc2,by rw [List.size_toArray,hq1,FH (by rw [hyl];omega),hcs],by rw [List.toList_toArray,hq2,hsd]⟩⟩)))
def Bu (l:List aL) (k v:Int):List aL:=if oI (l.map aL.key) k=true then l.set (gM (l.map aL.key) k) ⟨(l.getD (gM (l.map aL.key) k) ⟨0,0⟩).key,v⟩ else l.take (gM (l.map aL.key) k)++⟨k,v⟩ :: l.drop (gM (l.map aL.key) k)
def Aw (l:List aL) (k:Int):List aL:=if oI (l.map aL.key) k=true then l.take (gM (l.map aL.key) k)++l.drop (gM (l.map aL.key) k+1) else l
theorem PK (l:List aL) (i:Nat) (h:i<=l.length):(mF l).take (i*2)=mF (l.take i)∧(mF l).drop (i*2)=mF (l.drop i):=by
 have e:mF l=mF (l.take i)++mF (l.drop i):=by rw [<- MC,List.take_append_drop]
 have hl:(mF (l.take i)).length=i*2:=by rw [Vk,List.length_take,Nat.min_eq_left h]
 rw [e];exact ⟨by rw [List.take_append_of_le_length (by omega),nU (by omega)],by rw [List.drop_append_of_le_length (by omega),pJ (by omega),jR]⟩
theorem adS (l:List aL):(mF l).all Value.oneCell'=true:=by
 rw [jI];intro u hu;obtain ⟨cs,hcs,hu⟩:=List.mem_flatten.1 hu;obtain ⟨p,-,rfl⟩:=List.mem_map.1 hcs
 simp only [aL.cells,fV,List.mem_nil_iff,or_false] at hu
 rcases hu with rfl|rfl <;> rfl
theorem anS (l:List aL) (i:Nat) (h:i < l.length) (v:Int):(mF l).set (i*2+1) (vi v)=mF (l.set i ⟨l[i].key,v⟩):=by
 have e:mF l=mF (l.take i)++([vi l[i].key,vi l[i].value]++mF (l.drop (i+1))):=by
  conv=>lhs;rw [<- List.take_append_drop i l,oF h,MC]
  rfl
 have hl:(mF (l.take i)).length=i*2:=by rw [Vk,List.length_take,Nat.min_eq_left (by omega)]
 rw [e,List.set_append_right _ _ (by omega),hl,show i*2+1 - i*2=1 by omega,show ([vi l[i].key,vi l[i].value]++mF (l.drop (i+1))).set 1 (vi v)=[vi l[i].key,vi v]++mF (l.drop (i+1)) from rfl,List.set_eq_take_append_cons_drop (l:=l),aG h,MC]
 rfl
theorem abr {p:Prop} (h:p:=by
 have:=Qn (ks:=l.map aL.key) (t:=k) (by rw [<- hq];assumption);rw [<- hn] at this;simpa using this):p:=h
set_option maxHeartbeats 1000000 in
theorem azL (G:GH) (w0:World) (hG:Hold G w0) (l:List aL) (k x:Int) (v:ah) (hv:au G (.sl 2 (l.map aL.dat)) v) (hl:l.length<=4294967295) :
  Calls prog 214 #[v,vi k,vi x] w0 (bK w0 G fun u G'=>au G' (.sl 2 ((Bu l k x).map aL.dat)) u):=by
 obtain ⟨A,c,rfl,hc1,hc2,-⟩:=hv.slice;rw [bQ] at *;refine eN [(0,_),(1,_),(2,_)] func214 rfl ntmps214 rfl rfl hG ?_;intro a H;refine kP H (SR fun _ K1=>aj K1 rfl (SR fun _ K2=>Rm rfl (Rm rfl ?_)));clear H K1;intro a H;refine s_call Vw H wn rfl (YW _ _ H.ro l k _ hv (by omega)) rfl ?_;clear H;rintro v13 FT a w rfl Ba H;obtain ⟨n,hn⟩:∃ n,n=gM (l.map aL.key) k:=⟨_,rfl⟩;obtain ⟨q,hq⟩:∃ q,q=oI (l.map aL.key) k:=⟨_,rfl⟩;rw [<- hn,<- hq] at H;refine kH H (Rm rfl ?_);clear H;intro a H;(iterate 2 refine mg H wn rfl rfl rfl ?_;clear H;intro a H);refine kH H (Ra rfl (aj K2 rfl (SR fun _ K3=>Rm rfl ?_)));clear H K2;intro a H;refine gy Vr (Li:=[]) (L:=[]) H wn rfl (aiJ (Hp.owns (Li:=[]) H.hp) l _ (hv.mono Ba) (by omega)) rfl ?_;clear H;rintro v17 BN TB a w QK sV H;dsimp only [List.nil_append] at H;obtain ⟨A17,c17,rfl,-,-⟩:=QK.shape;refine kH H (aj K3 rfl (SQ fun _ K4=>SR fun _ K5=>Rm rfl (Kz K5 (Cd rfl ?_ ?_)))) <;> clear H K3 K5
 ·intro h18 a H
  try have Ef:=dT h18
  refine bD (fun _ K6=>?_)
  have hlt:n < l.length:=by
   exact abr
  obtain ⟨bb,rfl⟩:=QK.ptr (by omega);obtain ⟨cur,-,rfl,hcur,hset⟩:=QK.set1;refine kP H (SC (Rm rfl (Rm rfl (Rm rfl ?_))));clear H;intro a H;refine vX gT iq n H wn rfl rfl rfl (by omega) rfl ?_;clear H;intro a H;refine kH H (Rf P9 rfl ?_);clear H;intro a H;refine KW aC 0 (c:=cur) (vs:=[vi x]) (cur.set (n*2+1) (vi x)) H wn rfl rfl rfl rfl rfl rfl (by simp;omega) (by rw [gI];rfl) ?_;clear H;intro w H;dsimp only [List.set] at H;have hrwn:=hset (n*2+1) (vi x);rw [anS l n hlt] at hrwn;obtain ⟨G',hm',hrep,H⟩:=St.qp (Li:=[]) H hrwn (rows:=(l.set n ⟨l[n].key,x⟩).map aL.dat) (by simp) (RL _ _);exact kH H (Kn K6 (SR fun _ K7=>Rm rfl (aj K7 rfl (LR results214 rfl fun H=>H.rt (by rw [Bu,aG (by rw [<- hq];assumption),<- hn,List.getD_eq_getElem?_getD,dV hlt];exact hrep)))))
 intro h18 a H
 try have Ef:=dF h18
 refine kP H (Kc K4 (SR fun _ K8=>Rm rfl (Rm rfl (Rm rfl (Rm rfl ?_)))));clear H K4;intro a H;refine jD aAq [_,_] H wn rfl rfl rfl rfl ?_;clear H;intro a H;refine iT gT iq [_,_] [_,_] H wn rfl rfl rfl rfl rfl (by intro i q h;match i,h with|0,h=>exact h|n+1,h=>simp at h) rfl rfl ?_;clear H;intro b30 a w asW H;obtain ⟨Gb,hmb,asX,H⟩:=H.fB;refine gy apO (Li:=[]) (L:=TB) H wn rfl (avD _ _ TB (Hp.owns (Li:=[]) H.hp) _ l.length n (mF l) QK (adS l) (by rw [hn];exact Nat.le_trans (GN _ _) (by simp)) (by omega) b30 (vi k) (vi x) asX rfl rfl) rfl ?_;clear H;rintro v31 G31 L31 a w QL aCm H;rw [(PK l n (by rw [hn];exact Nat.le_trans (GN _ _) (by simp))).1,(PK l n (by rw [hn];exact Nat.le_trans (GN _ _) (by simp))).2] at QL
 obtain ⟨G',hm',hrep,H⟩:=St.qp (Li:=[]) H QL (rows:=(l.take n++⟨k,x⟩ :: l.drop n).map aL.dat) (by simp;have:=GN (l.map aL.key) k;rw [<- hn] at this;simp at this;omega) (by
  have h:bZ G31 2 ((l.take n++⟨k,x⟩ :: l.drop n).map aL.dat) (mF (l.take n++⟨k,x⟩ :: l.drop n)):=RL _ _;rw [MC] at h
  simpa [mF,aL.cells] using h)
 exact kH H (aj K8 rfl (LR results214 rfl fun H=>H.rt (by rw [Bu,av (by rw [<- hq];simp_all),<- hn];exact hrep)))
set_option maxHeartbeats 1000000 in
theorem anj (G:GH) (w0:World) (hG:Hold G w0) (l:List aL) (k:Int) (v:ah) (hv:au G (.sl 2 (l.map aL.dat)) v) (hl:l.length<=4294967295) :
  Calls prog 215 #[v,vi k] w0 (bK w0 G fun u G'=>au G' (.sl 2 ((Aw l k).map aL.dat)) u):=by
 obtain ⟨A,c,rfl,hc1,hc2,-⟩:=hv.slice;rw [bQ] at *;refine eN [(0,_),(1,_)] func215 rfl ntmps215 rfl rfl hG ?_;intro a H;refine kP H (SR fun _ K1=>aj K1 rfl (SR fun _ K2=>Rm rfl (Rm rfl ?_)));clear H K1;intro a H;refine s_call Vw H wn rfl (YW _ _ H.ro l k _ hv (by omega)) rfl ?_;clear H;rintro v11 zq a w rfl DW H;obtain ⟨n,hn⟩:∃ n,n=gM (l.map aL.key) k:=⟨_,rfl⟩;obtain ⟨q,hq⟩:∃ q,q=oI (l.map aL.key) k:=⟨_,rfl⟩;rw [<- hn,<- hq] at H;refine kH H (Rm rfl ?_);clear H;intro a H;(iterate 2 refine mg H wn rfl rfl rfl ?_;clear H;intro a H);refine kH H (Ra rfl (aj K2 rfl (SR fun _ K3=>Rm rfl ?_)));clear H K2;intro a H;refine gy Vr (Li:=[]) (L:=[]) H wn rfl (aiJ (Hp.owns (Li:=[]) H.hp) l _ (hv.mono DW) (by omega)) rfl ?_;clear H;rintro v15 Ey TA a w Nu Cx H;dsimp only [List.nil_append] at H;obtain ⟨ZH,c15,rfl,-,-⟩:=Nu.shape;refine kH H (aj K3 rfl (SQ fun _ K4=>SR fun _ K5=>Rm rfl (Kz K5 (Cd rfl ?_ ?_)))) <;> clear H K3 K5
 ·intro h16 a H
  try have p16:=dT h16
  have hlt:n < l.length:=by
   exact abr
  refine kP H (SC (Rm rfl (Rm rfl (Rm rfl (Rd rfl ?_)))));clear H;intro a H;refine gy apP (Li:=[]) (L:=TA) H wn rfl (anV _ _ TA (Hp.owns (Li:=[]) H.hp) _ l.length n (mF l) Nu (adS l) hlt (by omega)) rfl ?_;clear H;rintro v21 Tn zu a w CG Cy H;rw [(PK l n (by omega)).1,(PK l (n+1) (by omega)).2,<- MC] at CG;obtain ⟨G',hm',hrep,H⟩:=St.qp (Li:=[]) H CG (rows:=(l.take n++l.drop (n+1)).map aL.dat) (by simp;omega) (RL _ _);exact kH H (aX K4 rfl (SR fun _ K6=>Rm rfl (aj K6 rfl (LR results215 rfl fun H=>H.rt (by rw [Aw,aG (by rw [<- hq];assumption),<- hn];exact hrep)))))
 intro h16 a H
 try have p16:=dF h16
 obtain ⟨G',hm',hrep,H⟩:=St.qp (Li:=[]) H Nu (rows:=l.map aL.dat) (by simp) (RL _ _);exact kP H (Kc K4 (SR fun _ K7=>Rm rfl (aj K7 rfl (LR results215 rfl fun H=>H.rt (by rw [Aw,av (by rw [<- hq];simp_all)];exact hrep)))))
theorem aqN:OA prog 187 [(0,false),(1,false)]:=⟨by kernel_rfl,by kernel_rfl,by kernel_rfl,by kernel_rfl,by kernel_rfl⟩
theorem aqL:OA prog 159 [(0,false),(1,false)]:=⟨by kernel_rfl,by kernel_rfl,by kernel_rfl,by kernel_rfl,by kernel_rfl⟩
theorem aqM:OA prog 161 [(0,false),(1,false),(2,false),(3,true)]:=⟨by kernel_rfl,by kernel_rfl,by kernel_rfl,by kernel_rfl,by kernel_rfl⟩
theorem aol:aQ 102:=aR func102 rfl
theorem sP:dH prog 27 0 0:=⟨by kernel_rfl⟩
theorem Cn:dH prog 27 1 1:=⟨by kernel_rfl⟩
theorem aom:aQ 103:=aR func103 rfl
theorem aon:aQ 104:=aR func104 rfl
abbrev gF.cells (x:gF):List ah:=[vi x.rev,vi x.move]
abbrev bS.cells (x:bS):List ah:=[vi x.rev,vi x.key,vi x.before,.bool x.had]
theorem MI {G:GH} {x:gF} {cs:List ah} (h:aY G x.dat cs):cs=x.cells:=by
 simp only [gF.dat,aY,au] at h
 obtain ⟨_,_,rfl,⟨rfl,_⟩,_,_,rfl,⟨rfl,_⟩,rfl⟩:=h
 rfl
theorem abv {p:Prop} (h:p:=by
 obtain ⟨_,_,rfl,⟨rfl,_⟩,_,_,rfl,⟨rfl,_⟩,_,_,rfl,⟨rfl,_⟩,_,_,rfl,⟨rfl,_⟩,rfl⟩:=h
 rfl):p:=h
theorem XV {G:GH} {x:bS} {cs:List ah} (h:aY G x.dat cs):cs=x.cells:=by
 simp only [bS.dat,aY,au] at h
 exact abv
theorem aL.eq_iff (a b:aL):(a.key=b.key∧a.value=b.value)↔a=b:=by cases a;cases b;simp
theorem gF.eq_iff (a b:gF):(a.rev=b.rev∧a.move=b.move)↔a=b:=by cases a;cases b;simp
theorem bS.eq_iff (a b:bS):(a.rev=b.rev∧a.key=b.key∧a.before=b.before∧a.had=b.had)↔a=b:=by cases a;cases b;simp
instance:DecidableEq aL:=fun a b=>decidable_of_iff _ (aL.eq_iff a b)
instance:DecidableEq gF:=fun a b=>decidable_of_iff _ (gF.eq_iff a b)
instance:DecidableEq bS:=fun a b=>decidable_of_iff _ (bS.eq_iff a b)
theorem UR {p:Prop} (h:p:=by
 rw [Ce]
 simp only [Bool.not_eq_true',vE]
 rw [<- h]
 simp [ng]):p:=h
theorem awJ (a b:aL):(!([(0,false),(1,false)].all fun o=>ng #[vi a.key,vi a.value] o == ng #[vi b.key,vi b.value] o))=!decide (a=b):=by
 have h:=aL.eq_iff a b;exact UR
theorem awH (a b:gF):(!([(0,false),(1,false)].all fun o=>ng #[vi a.rev,vi a.move] o == ng #[vi b.rev,vi b.move] o))=!decide (a=b):=by
 have h:=gF.eq_iff a b;exact UR
theorem awI (a b:bS):(!([(0,false),(1,false),(2,false),(3,true)].all fun o=>ng #[vi a.rev,vi a.key,vi a.before,.bool a.had] o == ng #[vi b.rev,vi b.key,vi b.before,.bool b.had] o))=!decide (a=b):=by
 have h:=bS.eq_iff a b;exact UR
theorem alL {p:Prop} (h:p:=by
 exact ⟨by omega,by rw [kg hk2,kg hk3,hsame,hsm],fun b o h=>kV b o (hgm b o h)⟩):p:=h
theorem UE {p:Prop} (h:p:=by
 intro fC
 try have mR:=dF fC
 have hsm:A[k]=B[k]:=by simpa using fC
 refine kP H (Kc K9 (SC (Rd rfl (Rm rfl ?_))));clear H K9;intro a H;refine aD ?_;refine dG ((k+1,G)) (by exact H.sub ⟨rfl,rfl,rfl,rfl,aB⟩) ?_
 (try dsimp only);exact alL):p:=h
theorem aqK (G:GH) (w0:World) (hG:Hold G w0) (A B:List aL) (v u:ah) (hv:au G (.sl 2 (A.map aL.dat)) v) (hu:au G (.sl 2 (B.map aL.dat)) u) :
  Calls prog 102 #[v,u] w0 (bK w0 G fun r G'=>r=.bool (decide (A=B))):=by
 obtain ⟨vA,vc,rfl,hc1,hc2,hg⟩:=hv.slice;obtain ⟨uA,uc,rfl,hd1,hd2,hh⟩:=hu.slice;have hml:maxLen=9223372036854775807:=rfl;(iterate 2 rw [bQ] at *);refine eN [(0,_),(1,_)] func102 rfl ntmps102 rfl rfl hG ?_;intro a H;refine kP H (SR fun _ K1=>aj K1 rfl (SQ fun _ K2=>SR fun _ K3=>Rm rfl (Rl gT rfl (Rm rfl (Rl gT rfl (Rc rfl (Kz K3 (Cd rfl ?_ ?_)))))))) <;> clear H K1 K3
 ·intro h10 a H
  try have nN:=dT h10
  exact kP H (SR fun _ K4=>aj K4 rfl (LR results102 rfl fun H=>H.rt (iK (qN fun e=>absurd (dh List.length e) (by omega)).symm)))
 intro h10 a H
 try have nN:=dF h10
 refine kP H (Kc K2 (SQ fun _ K5=>SR fun _ K6=>Rm rfl (Rl gT rfl (Rm rfl (Kz K6 (SB ?_))))));clear H K2 K6;intro a H;skip;refine eX (ι:=Nat × GH) (Tc:=[(0,_),(1,_),(12,_)]) (Lc:=[]) (fun gh=>[(13,vi gh.1)]) (fun gh=>[]) (fun gh=>gh.2) (fun gh=>gh.1<=A.length∧A.take gh.1=B.take gh.1∧(∀ b o,G b=some o->gh.2 b=some o)) (fun gh=>A.length - gh.1) ((0,G)) (by exact H.sub ⟨rfl,rfl,rfl,rfl,aB⟩) ?_ ?_
 ·exact Aq
 clear H;rintro ⟨k,g⟩ a w hI H;dsimp only at hI H;obtain ⟨hk,hsame,hgm⟩:=hI;dsimp only [lca,bJ] at H;refine kP H (SR fun _ K7=>Rc rfl (Kz K7 (SQ fun _ K8=>Cd rfl ?_ ?_))) <;> clear H K7
 ·intro iV a H
  try have uo:=dT iV
  have hk2:k < A.length:=by omega
  have hk3:k < B.length:=by omega
  obtain ⟨b1,o1,cs1,rfl,agp,D8,hr1⟩:=hg k A[k].dat (by simp [hk2]);obtain rfl:=RJ hr1;obtain ⟨b2,o2,cs2,rfl,agq,hrow2,hr2⟩:=hh k B[k].dat (by simp [hk3]);obtain rfl:=RJ hr2;refine kP H (Kc K8 (SQ fun _ K9=>SB (SR fun _ aW=>Rm rfl (aj aW rfl (SQ fun _ bM=>?_)))));clear H K8 aW;intro a H;refine dI hmx [[],[],[0,1],[0,1,2],[],[],[4,5],[4,5,6],ra 0 8] [] (by kernel_rfl) [_,_,_,.agg A[k].cells.toArray,_,_,_,.agg B[k].cells.toArray,.bool (!decide (A[k]=B[k]))] H (ay (Z0 rfl (Rm rfl)) (Z0 rfl (Rm rfl)) (Z2 0 16 1 17 rfl (Ri gT iq rfl rfl)) ?_ (ay (Z0 rfl (Rm rfl)) (Z0 rfl (Rm rfl)) (Z2 4 20 5 21 rfl (Ri gT iq rfl rfl)) ?_ (bF ?_ cK))) ?_
  ·refine gZ 2 18 rfl rfl fun _ a w G1 hG HT H fin=>?_;refine bP iq (cs:=A[k].cells) H wn rfl rfl (fun j v hj=>H.hp.aH (aF hG (aF hgm (D8 j v hj)))) rfl ?_;exact jk
  ·refine gZ 6 22 rfl rfl fun _ a w G1 hG HT H fin=>?_;refine bP iq (cs:=B[k].cells) H wn rfl rfl (fun j v hj=>H.hp.aH (aF hG (aF hgm (hrow2 j v hj)))) rfl ?_;exact jk
  ·refine dY 3 19 7 23 rfl rfl fun _ a w G1 hG HT H fin=>?_;refine YS (.inr rfl) aqN H wn rfl rfl rfl rfl ?_;clear H;intro a H;exact fin H iJ (iK (awJ A[k] B[k]))
  clear H;intro a w G kV H hv;have H:=H.aM (hv 8 24 rfl rfl) rfl;clear hv;refine aD ⟨rfl,?_⟩;refine bM _ _ ?_;clear bM;refine jS H rfl ?_ ?_
  ·intro fC
   exact kP H (SR fun _ bU=>aj bU rfl (LR results102 rfl fun H=>H.rt (iK (qN fun e=>absurd fC (by subst e;simp)).symm)))
  exact UE
 intro iV a H
 try have uo:=dF iV
 refine dP ?_;refine K5 _ _ ?_;clear K5;exact kP H (SR fun _ bY=>aj bY rfl (LR results102 rfl fun H=>H.rt (iK (nT (by rw [nU (by omega),nU (by omega)] at hsame;exact hsame)).symm)))
theorem aqI (G:GH) (w0:World) (hG:Hold G w0) (A B:List gF) (v u:ah) (hv:au G (.sl 2 (A.map gF.dat)) v) (hu:au G (.sl 2 (B.map gF.dat)) u) :
  Calls prog 103 #[v,u] w0 (bK w0 G fun r G'=>r=.bool (decide (A=B))):=by
 obtain ⟨vA,vc,rfl,hc1,hc2,hg⟩:=hv.slice;obtain ⟨uA,uc,rfl,hd1,hd2,hh⟩:=hu.slice;have hml:maxLen=9223372036854775807:=rfl;(iterate 2 rw [bQ] at *);refine eN [(0,_),(1,_)] func103 rfl ntmps103 rfl rfl hG ?_;intro a H;refine kP H (SR fun _ K1=>aj K1 rfl (SQ fun _ K2=>SR fun _ K3=>Rm rfl (Rl oz rfl (Rm rfl (Rl oz rfl (Rc rfl (Kz K3 (Cd rfl ?_ ?_)))))))) <;> clear H K1 K3
 ·intro h10 a H
  try have nN:=dT h10
  exact kP H (SR fun _ K4=>aj K4 rfl (LR results103 rfl fun H=>H.rt (iK (qN fun e=>absurd (dh List.length e) (by omega)).symm)))
 intro h10 a H
 try have nN:=dF h10
 refine kP H (Kc K2 (SQ fun _ K5=>SR fun _ K6=>Rm rfl (Rl oz rfl (Rm rfl (Kz K6 (SB ?_))))));clear H K2 K6;intro a H;skip;refine eX (ι:=Nat × GH) (Tc:=[(0,_),(1,_),(12,_)]) (Lc:=[]) (fun gh=>[(13,vi gh.1)]) (fun gh=>[]) (fun gh=>gh.2) (fun gh=>gh.1<=A.length∧A.take gh.1=B.take gh.1∧(∀ b o,G b=some o->gh.2 b=some o)) (fun gh=>A.length - gh.1) ((0,G)) (by exact H.sub ⟨rfl,rfl,rfl,rfl,aB⟩) ?_ ?_
 ·exact Aq
 clear H;rintro ⟨k,g⟩ a w hI H;dsimp only at hI H;obtain ⟨hk,hsame,hgm⟩:=hI;dsimp only [lca,bJ] at H;refine kP H (SR fun _ K7=>Rc rfl (Kz K7 (SQ fun _ K8=>Cd rfl ?_ ?_))) <;> clear H K7
 ·intro iV a H
  try have uo:=dT iV
  have hk2:k < A.length:=by omega
  have hk3:k < B.length:=by omega
  obtain ⟨b1,o1,cs1,rfl,agp,D8,hr1⟩:=hg k A[k].dat (by simp [hk2]);obtain rfl:=MI hr1;obtain ⟨b2,o2,cs2,rfl,agq,hrow2,hr2⟩:=hh k B[k].dat (by simp [hk3]);obtain rfl:=MI hr2;refine kP H (Kc K8 (SQ fun _ K9=>SB (SR fun _ aW=>Rm rfl (aj aW rfl (SQ fun _ bM=>?_)))));clear H K8 aW;intro a H;refine dI hmx [[],[],[0,1],[0,1,2],[],[],[4,5],[4,5,6],ra 0 8] [] (by kernel_rfl) [_,_,_,.agg A[k].cells.toArray,_,_,_,.agg B[k].cells.toArray,.bool (!decide (A[k]=B[k]))] H (ay (Z0 rfl (Rm rfl)) (Z0 rfl (Rm rfl)) (Z2 0 16 1 17 rfl (Ri oz om rfl rfl)) ?_ (ay (Z0 rfl (Rm rfl)) (Z0 rfl (Rm rfl)) (Z2 4 20 5 21 rfl (Ri oz om rfl rfl)) ?_ (bF ?_ cK))) ?_
  ·refine gZ 2 18 rfl rfl fun _ a w G1 hG HT H fin=>?_;refine bP om (cs:=A[k].cells) H wn rfl rfl (fun j v hj=>H.hp.aH (aF hG (aF hgm (D8 j v hj)))) rfl ?_;exact jk
  ·refine gZ 6 22 rfl rfl fun _ a w G1 hG HT H fin=>?_;refine bP om (cs:=B[k].cells) H wn rfl rfl (fun j v hj=>H.hp.aH (aF hG (aF hgm (hrow2 j v hj)))) rfl ?_;exact jk
  ·refine dY 3 19 7 23 rfl rfl fun _ a w G1 hG HT H fin=>?_;refine YS (.inr rfl) aqL H wn rfl rfl rfl rfl ?_;clear H;intro a H;exact fin H iJ (iK (awH A[k] B[k]))
  clear H;intro a w G kV H hv;have H:=H.aM (hv 8 24 rfl rfl) rfl;clear hv;refine aD ⟨rfl,?_⟩;refine bM _ _ ?_;clear bM;refine jS H rfl ?_ ?_
  ·intro fC
   exact kP H (SR fun _ bU=>aj bU rfl (LR results103 rfl fun H=>H.rt (iK (qN fun e=>absurd fC (by subst e;simp)).symm)))
  exact UE
 intro iV a H
 try have uo:=dF iV
 refine dP ?_;refine K5 _ _ ?_;clear K5;exact kP H (SR fun _ bY=>aj bY rfl (LR results103 rfl fun H=>H.rt (iK (nT (by rw [nU (by omega),nU (by omega)] at hsame;exact hsame)).symm)))
theorem aqJ (G:GH) (w0:World) (hG:Hold G w0) (A B:List bS) (v u:ah) (hv:au G (.sl 4 (A.map bS.dat)) v) (hu:au G (.sl 4 (B.map bS.dat)) u) :
  Calls prog 104 #[v,u] w0 (bK w0 G fun r G'=>r=.bool (decide (A=B))):=by
 obtain ⟨vA,vc,rfl,hc1,hc2,hg⟩:=hv.slice;obtain ⟨uA,uc,rfl,hd1,hd2,hh⟩:=hu.slice;have hml:maxLen=9223372036854775807:=rfl;(iterate 2 rw [bQ] at *);refine eN [(0,_),(1,_)] func104 rfl ntmps104 rfl rfl hG ?_;intro a H;refine kP H (SR fun _ K1=>aj K1 rfl (SQ fun _ K2=>SR fun _ K3=>Rm rfl (Rl lK rfl (Rm rfl (Rl lK rfl (Rc rfl (Kz K3 (Cd rfl ?_ ?_)))))))) <;> clear H K1 K3
 ·intro h10 a H
  try have nN:=dT h10
  exact kP H (SR fun _ K4=>aj K4 rfl (LR results104 rfl fun H=>H.rt (iK (qN fun e=>absurd (dh List.length e) (by omega)).symm)))
 intro h10 a H
 try have nN:=dF h10
 refine kP H (Kc K2 (SQ fun _ K5=>SR fun _ K6=>Rm rfl (Rl lK rfl (Rm rfl (Kz K6 (SB ?_))))));clear H K2 K6;intro a H;skip;refine eX (ι:=Nat × GH) (Tc:=[(0,_),(1,_),(12,_)]) (Lc:=[]) (fun gh=>[(13,vi gh.1)]) (fun gh=>[]) (fun gh=>gh.2) (fun gh=>gh.1<=A.length∧A.take gh.1=B.take gh.1∧(∀ b o,G b=some o->gh.2 b=some o)) (fun gh=>A.length - gh.1) ((0,G)) (by exact H.sub ⟨rfl,rfl,rfl,rfl,aB⟩) ?_ ?_
 ·exact Aq
 clear H;rintro ⟨k,g⟩ a w hI H;dsimp only at hI H;obtain ⟨hk,hsame,hgm⟩:=hI;dsimp only [lca,bJ] at H;refine kP H (SR fun _ K7=>Rc rfl (Kz K7 (SQ fun _ K8=>Cd rfl ?_ ?_))) <;> clear H K7
 ·intro iV a H
  try have uo:=dT iV
  have hk2:k < A.length:=by omega
  have hk3:k < B.length:=by omega
  obtain ⟨b1,o1,cs1,rfl,agp,D8,hr1⟩:=hg k A[k].dat (by simp [hk2]);obtain rfl:=XV hr1;obtain ⟨b2,o2,cs2,rfl,agq,hrow2,hr2⟩:=hh k B[k].dat (by simp [hk3]);obtain rfl:=XV hr2;refine kP H (Kc K8 (SQ fun _ K9=>SB (SR fun _ aW=>Rm rfl (aj aW rfl (SQ fun _ bM=>?_)))));clear H K8 aW;intro a H;refine dI hmx [[],[],[0,1],[0,1,2],[],[],[4,5],[4,5,6],ra 0 8] [] (by kernel_rfl) [_,_,_,.agg A[k].cells.toArray,_,_,_,.agg B[k].cells.toArray,.bool (!decide (A[k]=B[k]))] H (ay (Z0 rfl (Rm rfl)) (Z0 rfl (Rm rfl)) (Z2 0 16 1 17 rfl (Ri lK jN rfl rfl)) ?_ (ay (Z0 rfl (Rm rfl)) (Z0 rfl (Rm rfl)) (Z2 4 20 5 21 rfl (Ri lK jN rfl rfl)) ?_ (bF ?_ cK))) ?_
  ·refine gZ 2 18 rfl rfl fun _ a w G1 hG HT H fin=>?_;refine bP jN (cs:=A[k].cells) H wn rfl rfl (fun j v hj=>H.hp.aH (aF hG (aF hgm (D8 j v hj)))) rfl ?_;exact jk
  ·refine gZ 6 22 rfl rfl fun _ a w G1 hG HT H fin=>?_;refine bP jN (cs:=B[k].cells) H wn rfl rfl (fun j v hj=>H.hp.aH (aF hG (aF hgm (hrow2 j v hj)))) rfl ?_;exact jk
  ·refine dY 3 19 7 23 rfl rfl fun _ a w G1 hG HT H fin=>?_;refine YS (.inr rfl) aqM H wn rfl rfl rfl rfl ?_;clear H;intro a H;exact fin H iJ (iK (awI A[k] B[k]))
  clear H;intro a w G kV H hv;have H:=H.aM (hv 8 24 rfl rfl) rfl;clear hv;refine aD ⟨rfl,?_⟩;refine bM _ _ ?_;clear bM;refine jS H rfl ?_ ?_
  ·intro fC
   exact kP H (SR fun _ bU=>aj bU rfl (LR results104 rfl fun H=>H.rt (iK (qN fun e=>absurd fC (by subst e;simp)).symm)))
  exact UE
 intro iV a H
 try have uo:=dF iV
 refine dP ?_;refine K5 _ _ ?_;clear K5;exact kP H (SR fun _ bY=>aj bY rfl (LR results104 rfl fun H=>H.rt (iK (nT (by rw [nU (by omega),nU (by omega)] at hsame;exact hsame)).symm)))
theorem dJ.eq_iff (a b:dJ):(((a.props=b.props∧a.marks.ins=b.marks.ins)∧a.marks.move=b.marks.move)∧a.marks.bE=b.marks.bE)∧a.marks.layers=b.marks.layers↔a=b:=by
 obtain ⟨p,i,m,d,l⟩:=a;obtain ⟨p2,i2,m2,d2,l2⟩:=b
 simp [and_assoc]
instance:DecidableEq dJ:=fun a b=>decidable_of_iff _ (dJ.eq_iff a b)
abbrev rX (h:dJ) (p d l:ah):ah:=.agg #[p,vi h.marks.ins,vi h.marks.move,d,l]
theorem aqO (G:GH) (w0:World) (hG:Hold G w0) (x y:dJ) (p d l p2 d2 l2:ah) (hx:jy G x p d l) (hy:jy G y p2 d2 l2) :
  Calls prog 52 #[rX x p d l,rX y p2 d2 l2] w0 (bK w0 G fun r G'=>r=.bool (decide (x=y))):=by
 obtain ⟨pA,pc,rfl,-,-,-⟩:=hx.props.slice;obtain ⟨dA,dc,rfl,-,-,-⟩:=hx.bE.slice;obtain ⟨lA,lc,rfl,-,-,-⟩:=hx.layers.slice;obtain ⟨pA2,pc2,rfl,-,-,-⟩:=hy.props.slice;obtain ⟨dA2,dc2,rfl,-,-,-⟩:=hy.bE.slice;obtain ⟨lA2,lc2,rfl,-,-,-⟩:=hy.layers.slice;have he:=dJ.eq_iff x y;refine eN [(0,_),(1,_)] func52 rfl ntmps52 rfl rfl hG ?_;intro a H;refine cO (fun _ K1=>?_);refine dW (cs:=[_,_,_,_,_]) H wn rfl rfl rfl ?_;clear H;intro b2 a w hb2 H;refine dW (cs:=[_,_,_,_,_]) H wn rfl rfl rfl ?_;clear H;intro b3 a w hb3 H;refine kH H (aj K1 rfl (SR fun _ K2=>bq yL vk 1 rfl rfl (bq yL vk 0 rfl rfl ?_)));clear H K1;intro a H;refine s_call aol H wn rfl (aqK _ _ H.ro x.props y.props _ _ hx.props hy.props) rfl ?_;clear H;rintro v9 G9 a w rfl yS H;refine kH H (Rm rfl (Sp 10 rfl ?_ ?_)) <;> clear H
 ·intro h10 a H
  try have nN:=dT h10
  refine kH H (YF qo h10 rfl (YF sP h10 rfl (YO aC 1 h10 rfl (YF qo h10 rfl (YF sP h10 rfl (YO aC 0 h10 rfl (YC h10 rfl (Pt h10 rfl (Rm rfl (Sp 19 rfl ?_ ?_)))))))))) <;> clear H
  ·intro h19 a H
   try have tC:=dT h19
   refine kH H (YF qo h19 rfl (YF Cn h19 rfl (YO aC 1 h19 rfl (YF qo h19 rfl (YF Cn h19 rfl (YO aC 0 h19 rfl (YC h19 rfl (Pt h19 rfl (Rm rfl (Sp 28 rfl ?_ ?_)))))))))) <;> clear H
   ·intro fZ a H
    try have p28:=dT fZ
    refine kH H (YF qo fZ rfl (YF tY fZ rfl (YO uw 1 fZ rfl (YF qo fZ rfl (YF tY fZ rfl (YO uw 0 fZ rfl ?_))))));clear H;intro a H;refine s_call aom H (wg H rfl rfl fZ) rfl (aqI _ _ H.ro x.marks.bE y.marks.bE _ _ (hx.bE.mono yS) (hy.bE.mono yS)) rfl ?_;clear H;rintro v35 ZU a w rfl agF H;refine kH H (Pt fZ rfl (Rm rfl (Sp 37 rfl ?_ ?_))) <;> clear H
    ·intro h37 a H
     try have p37:=dT h37
     refine kH H (YF qo h37 rfl (YF Az h37 rfl (YO BD 1 h37 rfl (YF qo h37 rfl (YF Az h37 rfl (YO BD 0 h37 rfl ?_))))));clear H;intro a H;refine s_call aon H (wg H rfl rfl h37) rfl (aqJ _ _ H.ro x.marks.layers y.marks.layers _ _ ((hx.layers.mono yS).mono agF) ((hy.layers.mono yS).mono agF)) rfl ?_;clear H;rintro v44 G44 a w rfl aCo H;exact kH H (Pt h37 rfl (aj K2 rfl (LR results52 rfl fun H=>H.rt (iK (by simp_all)))))
    intro h37 a H
    try have p37:=dF h37
    exact kH H (bB h37 rfl (aP h37 rfl (aP h37 rfl (Pf h37 rfl (aj K2 rfl (LR results52 rfl fun H=>H.rt (iK (by simp_all))))))))
   intro fZ a H
   try have p28:=dF fZ
   exact kH H (bB fZ rfl (aP fZ rfl (aP fZ rfl (Pf fZ rfl (Rm rfl (bB rfl rfl (aP rfl rfl (aP rfl rfl (Pf rfl rfl (aj K2 rfl (LR results52 rfl fun H=>H.rt (iK (by simp_all)))))))))))))
  intro h19 a H
  try have tC:=dF h19
  exact kH H (bB h19 rfl (aP h19 rfl (aP h19 rfl (Pf h19 rfl (Rm rfl (bB rfl rfl (aP rfl rfl (aP rfl rfl (Pf rfl rfl (Rm rfl (bB rfl rfl (aP rfl rfl (aP rfl rfl (Pf rfl rfl (aj K2 rfl (LR results52 rfl fun H=>H.rt (iK (by simp_all))))))))))))))))))
 intro h10 a H
 try have nN:=dF h10
 exact kH H (bB h10 rfl (aP h10 rfl (aP h10 rfl (Pf h10 rfl (Rm rfl (bB rfl rfl (aP rfl rfl (aP rfl rfl (Pf rfl rfl (Rm rfl (bB rfl rfl (aP rfl rfl (aP rfl rfl (Pf rfl rfl (Rm rfl (bB rfl rfl (aP rfl rfl (aP rfl rfl (Pf rfl rfl (aj K2 rfl (LR results52 rfl fun H=>H.rt (iK (by simp_all)))))))))))))))))))))))
def rE:Nat->List bS->List (Int × List bS)
 | 0,_=>[]
 | _+1,[]=>[]
 | f+1,y :: r=>(y.key,y :: r.takeWhile fun z=>decide (z.key=y.key)) :: rE f (r.dropWhile fun z=>decide (z.key=y.key))
def jd (acc:Int->Bool):List bS->Nat->Nat->Nat
 | [],_,c=>c
 | y :: r,k,c=>jd acc r (k+1) (if acc y.rev=true then k+1 else c)
def um (rej:Int->Bool) (yg:List (Int × Bool)):List bS->Nat->Int × Bool->List bS × (Int × Bool)
 | [],_,now=>([],now)
 | y :: r,k,now=>if rej y.rev=true then um rej yg r (k+1) now else
  let q:=um rej yg r (k+1) (yg.getD (k+1) (0,false))
  (⟨y.rev,y.key,now.1,now.2⟩ :: q.1,q.2)
def qg (props:List aL) (key:Int) (l:List bS):List (Int × Bool):=l.map (fun y=>(y.before,y.had))++[kU props key]
def lZ (acc rej:Int->Bool) (props:List aL) (key:Int) (l:List bS):List bS × (Int × Bool) :=
 um rej (qg props key l) (l.drop (jd acc l 0 0)) (jd acc l 0 0) ((qg props key l).getD (jd acc l 0 0) (0,false))
def vw (l:List aL) (k:Int) (s:Int × Bool):List aL:=if s.2=true then Bu l k s.1 else Aw l k
def tV (acc rej:Int->Bool) (props:List aL):List (Int × List bS)->List aL × List bS->List aL × List bS
 | [],s=>s
 | (k,l) :: r,s=>tV acc rej props r (vw s.1 k (lZ acc rej props k l).2,s.2++(lZ acc rej props k l).1)
def lS (acc rej:Int->Bool) (h:dJ):Prop:=(h.marks.ins≠0∧rej h.marks.ins=true)∨∃ x∈h.marks.bE,acc x.rev=true
instance (acc rej:Int->Bool) (h:dJ):Decidable (lS acc rej h):=inferInstanceAs (Decidable (_∨_))
def kW (acc:Int->Bool) (h:dJ):Prop:=h.marks.ins≠0∧acc h.marks.ins=true
instance (acc:Int->Bool) (h:dJ):Decidable (kW acc h):=inferInstanceAs (Decidable (_∧_))
def iE (acc rej:Int->Bool) (h:dJ):dJ :=
 let q:=tV acc rej h.props (rE h.marks.layers.length h.marks.layers) (h.props,[])
 ⟨q.1,⟨if kW acc h then 0 else h.marks.ins,if kW acc h then 0 else h.marks.move,h.marks.bE.filter fun x=>!rej x.rev,q.2⟩⟩
def BL:dJ:=⟨[],⟨0,0,[],[]⟩⟩
def aal (b:Bool) (h:dJ) (u:ah) (G:GH):Prop:=∃ p d l,u=.tuple #[rX h p d l,.bool b]∧jy G h p d l
theorem akT (G:GH):jy G BL (.slice none 0 0) (.slice none 0 0) (.slice none 0 0):=⟨au.qV rfl (by decide),au.qV rfl (by decide),au.qV rfl (by decide)⟩
theorem azI (l:List aL) (k v:Int):(Bu l k v).length<=l.length+1:=by
 unfold Bu;split
 ·rw [List.length_set];omega
 have:=GN (l.map aL.key) k;rw [bQ] at this
 simp only [iw,List.length_take,kS,List.length_drop];omega
theorem anF (l:List aL) (k:Int):(Aw l k).length<=l.length:=by
 unfold Aw;split
 ·have:=GN (l.map aL.key) k;rw [bQ] at this
  simp only [iw,List.length_take,List.length_drop];omega
 exact eu _
theorem akF (l:List aL) (k:Int) (s:Int × Bool):(vw l k s).length<=l.length+1:=by
 unfold vw;split
 ·exact azI _ _ _
 have:=anF l k;omega
theorem afG (acc:Int->Bool):∀ (l:List bS) (k c:Nat),c<=k->jd acc l k c<=k+l.length
 | [],k,c,h=>by rw [jd];simpa using h
 | y :: r,k,c,h=>by
  rw [jd]
  have:=afG acc r (k+1) (if acc y.rev=true then k+1 else c) (by split <;> omega)
  simp only [kS];omega
theorem XT (rej:Int->Bool) (yg:List (Int × Bool)):∀ (l:List bS) (k:Nat) (now:Int × Bool),(um rej yg l k now).1.length<=l.length
 | [],_,_=>by rw [um];exact eu _
 | y :: r,k,now=>by
  rw [um];split
  ·have:=XT rej yg r (k+1) now;simp only [kS];omega
  have:=XT rej yg r (k+1) (yg.getD (k+1) (0,false));simp only [kS];omega
theorem V6 (acc rej:Int->Bool) (props:List aL) (key:Int) (l:List bS):(lZ acc rej props key l).1.length<=l.length:=by
 have:=XT rej (qg props key l) (l.drop (jd acc l 0 0)) (jd acc l 0 0) ((qg props key l).getD (jd acc l 0 0) (0,false));rw [List.length_drop] at this
 unfold lZ;omega
theorem abp {p:Prop} (h:p:=by
 have:=(List.dropWhile_sublist (l:=r) fun z=>decide (z.key=y.key)).length_le
 simp only [kS] at h;omega):p:=h
theorem Hg:∀ (f:Nat) (l:List bS),l.length<=f->(rE f l).flatMap Prod.snd=l∧∀ q∈rE f l,q.2≠[]
 | 0,l,h=>by
  have:l=[]:=List.eq_nil_of_length_eq_zero (by omega);subst this;exact ⟨rfl,fun q hq=>by cases hq⟩
 | f+1,[],_=>⟨rfl,fun q hq=>by cases hq⟩
 | f+1,y :: r,h=>by
  have h2:(r.dropWhile fun z=>decide (z.key=y.key)).length<=f:=by
   exact abp
  obtain ⟨e1,e2⟩:=Hg f _ h2;rw [rE];refine ⟨?_,fun q hq=>?_⟩
  ·rw [List.flatMap_cons,e1]
   show (y :: _)++_=_
   rw [oD,List.takeWhile_append_dropWhile]
  rcases fV.1 hq with rfl|hq
  ·exact List.cons_ne_nil _ _
  exact e2 q hq
theorem Y1:Jh prog 172:=⟨by kernel_rfl⟩
theorem amN:prog.cellsOf 5=1:=by kernel_rfl
theorem awO (v:ah) (w:World):(callFunc 210 #[v]).run prog w=.ok (.value v) w:=ayS func210 (by kernel_rfl) (by kernel_rfl) (by kernel_rfl) (by kernel_rfl) v w
theorem Oe:prog.underlying 169=some (.pointer 172):=by kernel_rfl
theorem akc:prog.underlying 280=some .unsafePointer:=by kernel_rfl
theorem MP:dH prog 172 0 0:=⟨by kernel_rfl⟩
theorem Ob:Ty prog 169 1 8 [.pointer none] false:=⟨by kernel_rfl,by kernel_rfl⟩
theorem aoQ:aQ 154:=aR func154 rfl
theorem IX:prog.underlying 170=some (.slice 5):=by kernel_rfl
theorem JR:dH prog 172 1 1:=⟨by kernel_rfl⟩
theorem Lb:Ty prog 170 1 24 [.slice none 0 0] false:=⟨by kernel_rfl,by kernel_rfl⟩
theorem aAH:prog.underlying 231=some (.pointer 5):=by kernel_rfl
theorem jv:Ty prog 49 1 8 [.int .i64 0] false:=⟨by kernel_rfl,by kernel_rfl⟩
theorem rP:prog.underlying 203=some (.slice 49):=by kernel_rfl
theorem yI:aQ 128:=aR func128 rfl
theorem yY (G:GH) (w0:World) (hG:Hold G w0) (n l h:Int):Calls prog 128 #[vi n,vi l,vi h] w0 (bK w0 G fun u G'=>u=.bool (decide (l<=n∧n<=h))∧G=G'):=by
 refine eN [(0,_),(1,_),(2,_)] func128 rfl ntmps128 rfl rfl hG ?_;intro a H;refine kP H (SR fun _ K1=>aj K1 rfl (SR fun _ K2=>Rm rfl (Rm rfl (Rc rfl (Rm rfl (Sp 10 rfl ?_ ?_)))))) <;> clear H K1
 ·intro h10 a H
  try have nN:=dT h10
  exact kH H (YM h10 rfl (YM h10 rfl (YC h10 rfl (Pt h10 rfl (aj K2 rfl (LR results128 rfl fun H=>H.rt ⟨iK (by first|(simp_all;done)|(simp_all;omega)),rfl⟩))))))
 intro h10 a H
 try have nN:=dF h10
 exact kH H (bB h10 rfl (Pf h10 rfl (aj K2 rfl (LR results128 rfl fun H=>H.rt ⟨iK (by first|(simp_all;done)|(simp_all;omega)),rfl⟩))))
def dz (b:Bool) (e:Int):Int:=if b=true then e else 0
theorem mY (G:GH) (w0:World) (hG:Hold G w0) (b:Bool) (e:Int):Calls prog 71 #[.bool b,vi e] w0 (bK w0 G fun u G'=>u=vi (dz b e)∧G=G'):=by
 refine eN [(0,_),(1,_)] func71 rfl ntmps71 rfl rfl hG ?_;intro a H;refine kP H (SR fun _ K1=>aj K1 rfl (SQ fun _ K2=>SR fun _ K3=>Rm rfl (Kz K3 (Cd rfl ?_ ?_)))) <;> clear H K1 K3
 ·intro h5 a H
  try have p5:=dT h5
  exact kP H (SR fun _ K4=>Rm rfl (aj K4 rfl (LR results71 rfl fun H=>H.rt ⟨dh vi (by simp_all [dz]),rfl⟩)))
 intro h5 a H
 try have p5:=dF h5
 exact kP H (Kc K2 (SR fun _ K5=>aj K5 rfl (LR results71 rfl fun H=>H.rt ⟨dh vi (by simp_all [dz]),rfl⟩)))
def dL:List Int->Int
 | []=>0
 | e :: r=>if e≠0 then e else dL r
theorem Qh {l:List Int} {k:Nat} (h:k < l.length):dL (l.drop k)=if l[k]≠0 then l[k] else dL (l.drop (k+1)):=by
 rw [oF h,dL]
theorem sQ (G:GH) (w0:World) (hG:Hold G w0) (l:List Int) (v:ah) (hv:au G (.sl 1 (l.map fun k=>[li k])) v) :
  Calls prog 66 #[v] w0 (bK w0 G fun u G'=>u=vi (dL l)∧G=G'):=by
 obtain ⟨A,c,rfl,hc1,hc2,hg⟩:=hv.slice;have hml:maxLen=9223372036854775807:=rfl;rw [bQ] at *;refine eN [(0,_)] func66 rfl ntmps66 rfl rfl hG ?_;intro a H;refine kP H (SR fun _ K1=>aj K1 rfl (SQ fun _ K2=>SR fun _ K3=>Rm rfl (Rl rP rfl (Rm rfl (Kz K3 (SB ?_))))));clear H K1 K3;intro a H;skip;refine eX (ι:=Nat) (Tc:=[(5,_),(6,_)]) (Lc:=[]) (fun gh=>[(7,vi gh)]) (fun gh=>[]) (fun gh=>G) (fun gh=>gh<=l.length∧dL (l.drop gh)=dL l) (fun gh=>l.length - gh) (0) (by exact H.sub ⟨rfl,rfl,rfl,aB⟩) ?_ ?_
 ·exact Ju
 clear H;intro k a w hI H;obtain ⟨hk,he⟩:=hI;dsimp only [lca,bJ] at H;refine kP H (SR fun _ K4=>Rc rfl (Kz K4 (SQ fun _ K5=>Cd rfl ?_ ?_))) <;> clear H K4
 ·intro h8 a H
  try have p8:=dT h8
  have hk2:k < l.length:=by omega
  obtain ⟨b,o,cs,rfl,hcl,hrow,hr⟩:=hg k [li l[k]] (by simp [hk2]);obtain ⟨v1,_,rfl,⟨rfl,-⟩,rfl⟩:∃ v vs,cs=v :: vs∧au G (li l[k]) v∧aY G [] vs:=hr
  have hcell:aH G b (o+k*1)=some (vi l[k]):=by simpa using hrow 0 _ rfl
  refine kP H (Kc K5 (SQ fun _ K6=>SB (SR fun _ K7=>Ri rP jv rfl rfl (Rg jv rfl hcell (aj K7 rfl (SR fun _ K8=>Rm rfl (Rc rfl (Kz K8 (Cd rfl ?_ ?_))))))))) <;> clear H K5 K7 K8
  ·intro h12 a H
   try have qD:=dT h12
   exact kP H (SR fun _ K9=>Rm rfl (aj K9 rfl (LR results66 rfl fun H=>H.rt ⟨dh vi (by rw [Qh hk2,aG qD] at he;exact he),rfl⟩)))
  intro h12 a H
  try have qD:=dF h12
  refine kP H (Kc K6 (SC (Rd rfl (Rm rfl ?_))));clear H K6;intro a H;refine aD ?_;refine dG ((k+1)) (by exact H.sub ⟨rfl,rfl,rfl,aB⟩) ?_
  exact ⟨by omega,by rw [Qh hk2,av qD] at he;exact he⟩
 intro h8 a H
 try have p8:=dF h8
 refine dP ?_;refine K2 _ _ ?_;clear K2;exact kP H (SR fun _ aW=>aj aW rfl (LR results66 rfl fun H=>H.rt ⟨dh vi (by rw [pJ (by omega)] at he;exact he),rfl⟩))
def vB (fv:ah) (Gi:GH) (n:Nat) (E:Nat->Int):Prop:=∀ i,i < n->∀ (G1:GH) (w1:World),(∀ b o,Gi b=some o->G1 b=some o)->Hold G1 w1->tL prog fv [vi i] w1 (bK w1 G1 fun u G'=>u=vi (E i))
theorem vB.mono {fv:ah} {G G':GH} {n:Nat} {E:Nat->Int} (h:vB fv G n E) (hm:∀ b o,G b=some o->G' b=some o):vB fv G' n E:=fun i hi G1 w1 hG1=>h i hi G1 w1 fun b o hb=>hG1 b o (hm b o hb)
def iU (E:Nat->Int) (n:Nat):Int:=dL ((List.range n).map E)
theorem Gm {E:Nat->Int} {n k:Nat} (h:k < n):dL (((List.range n).map E).drop k)=if E k≠0 then E k else dL (((List.range n).map E).drop (k+1)):=by
 rw [Qh (by simpa using h)];simp
theorem alM {p:Prop} (h:p:=by
 exact ⟨by omega,by rw [Gm hk2,av tu] at he;exact he,fun b o h=>Ba b o (hgm b o h)⟩):p:=h
theorem acJ {p:Prop} (h:p:=by
 refine kP H (Kc K6 (SC (Rd rfl (Rm rfl ?_))));clear H K6;intro a H;refine aD ?_;refine dG ((k+1,FT)) (by exact H.sub ⟨rfl,rfl,rfl,aB⟩) ?_
 (try dsimp only);exact alM):p:=h
theorem LY (G:GH) (w0:World) (hG:Hold G w0) (n:Nat) (E:Nat->Int) (fv:ah) (hn:n<=4611686018427387904) (hf:vB fv G n E) :
  Calls prog 123 #[vi n,fv] w0 (bK w0 G fun u G'=>u=vi (iU E n)):=by
 refine eN [(0,_),(1,_)] func123 rfl ntmps123 rfl rfl hG ?_;intro a H;refine kP H (SR fun _ K1=>aj K1 rfl (SQ fun _ K2=>SR fun _ K3=>Rm rfl (Rm rfl (Kz K3 (SB ?_)))));clear H K1 K3;intro a H;skip;refine eX (ι:=Nat × GH) (Tc:=[(1,_),(7,_)]) (Lc:=[]) (fun gh=>[(8,vi gh.1)]) (fun gh=>[]) (fun gh=>gh.2) (fun gh=>gh.1<=n∧dL (((List.range n).map E).drop gh.1)=iU E n∧(∀ b o,G b=some o->gh.2 b=some o)) (fun gh=>n - gh.1) ((0,G)) (by exact H.sub ⟨rfl,rfl,rfl,aB⟩) ?_ ?_
 ·exact EG
 clear H;rintro ⟨k,g⟩ a w hI H;dsimp only at hI H;obtain ⟨hk,he,hgm⟩:=hI;dsimp only [lca,bJ] at H;refine kP H (SR fun _ K4=>Rc rfl (Kz K4 (SQ fun _ K5=>Cd rfl ?_ ?_))) <;> clear H K4
 ·intro h9 a H
  try have p9:=dT h9
  have hk2:k < n:=by omega
  refine kP H (Kc K5 (SQ fun _ K6=>SB (SR fun _ K7=>Rm rfl (aj K7 rfl (SR fun _ K8=>Rm rfl (Rm rfl ?_))))));clear H K5 K7;intro a H;refine kX H wn rfl rfl (hf k hk2 _ _ hgm H.ro) rfl ?_;clear H;rintro v13 FT a w rfl Ba H;refine kH H (aj K8 rfl (SR fun _ K9=>Rm rfl (Rc rfl (Kz K9 (Cd rfl ?_ ?_))))) <;> clear H K8 K9
  ·intro jK a H
   try have tu:=dT jK
   exact kP H (SR fun _ aW=>Rm rfl (aj aW rfl (LR results123 rfl fun H=>H.rt (dh vi (by rw [Gm hk2,aG tu] at he;exact he)))))
  intro jK a H
  try have tu:=dF jK
  exact acJ
 intro h9 a H
 try have p9:=dF h9
 refine dP ?_;refine K2 _ _ ?_;clear K2;exact kP H (SR fun _ bM=>aj bM rfl (LR results123 rfl fun H=>H.rt (dh vi (by rw [pJ (by simp;omega)] at he;exact he))))
def wO (id:Nat->Int) (i:Nat):Int:=if ¬ (1<=id i∧id i<=1073741824) then 18 else if 0 < i∧id i=id (i - 1) then 7 else if 0 < i∧id i < id (i - 1) then 6 else 0
theorem O5 {p:Prop} (h:p:=by
 exact H.rt (dh vi (by unfold wO;(repeat' split) <;> first|rfl|(exfalso;simp_all;done)|(exfalso;simp_all;omega)))):p:=h
theorem UK {p:Prop} (h:p:=by
 intro a H;refine lr H results125 rfl ?_
 exact O5):p:=h
theorem UM {p:Prop} (h:p:=by
 refine lr H results125 rfl ?_
 exact O5):p:=h
theorem ahE (G:GH) (w0:World) (hG:Hold G w0) (i:Nat) (id:Nat->Int) (fv:ah) (hn:i<=4611686018427387904) (hf:vB fv G (i+1) id) :
  Calls prog 125 #[vi i,fv] w0 (bK w0 G fun u G'=>u=vi (wO id i)):=by
 refine eN [(0,_),(1,_)] func125 rfl ntmps125 rfl rfl hG ?_;intro a H;refine kP H (SR fun _ K1=>aj K1 rfl (SQ fun _ K2=>SB (SR fun _ K3=>Rm rfl (Rm rfl ?_))));clear H K1;intro a H;refine kX H wn rfl rfl (hf i (Nat.lt_succ_self _) _ _ (fun _ _ h=>h) H.ro) rfl ?_;clear H;rintro v8 G8 a w rfl rH H;refine s_call yI H wn rfl (yY _ _ H.ro (id i) 1 1073741824) rfl ?_;clear H;rintro v9 _ a w ⟨rfl,rfl⟩ - H;refine kH H (Rn rfl (aj K3 rfl (Cd rfl ?_ ?_))) <;> clear H K3
 ·intro h5 a H
  try have p5:=dT h5
  refine kP H (SR fun _ K4=>aj K4 rfl ?_);clear H K4;exact UK
 intro h5 a H
 try have p5:=dF h5
 refine kP H (SR fun _ K5=>Rm rfl (Rc rfl (Rm rfl (Sp 14 rfl ?_ ?_)))) <;> clear H
 ·intro iV a H
  try have uo:=dT iV
  refine kH H (YM iV rfl (YM iV rfl ?_));clear H;intro a H;refine kX H (wg H rfl rfl iV) rfl rfl (hf i (Nat.lt_succ_self _) _ _ rH H.ro) rfl ?_;clear H;rintro v17 BN a w rfl sV H;refine kH H (YM iV rfl (YM iV rfl ?_));clear H;intro a H;refine zl _ H (wg H rfl rfl iV) rfl rfl rfl (by omega) (by omega) rfl ?_;clear H;intro a H;rw [show ((i:Int) - 1)=((i - 1:Nat):Int) by omega] at H;refine kX H (wg H rfl rfl iV) rfl rfl (hf (i - 1) (by omega) _ _ (fun b o h=>sV b o (rH b o h)) H.ro) rfl ?_;clear H;rintro v21 Tn a w rfl Cy H;refine kH H (YC iV rfl (Pt iV rfl (aj K5 rfl (Cd rfl ?_ ?_)))) <;> clear H K5
  ·intro h11 a H
   try have sj:=dT h11
   refine kP H (SR fun _ K6=>aj K6 rfl ?_);clear H K6;intro a H;exact UM
  intro h11 a H
  try have sj:=dF h11
  refine kP H (SR fun _ K7=>Rm rfl (Rc rfl (Rm rfl (Sp 27 rfl ?_ ?_)))) <;> clear H
  ·intro h27 a H
   try have p27:=dT h27
   refine kH H (YM h27 rfl (YM h27 rfl ?_));clear H;intro a H;refine kX H (wg H rfl rfl h27) rfl rfl (hf i (Nat.lt_succ_self _) _ _ (fun b o h=>by first|exact Cy b o (sV b o (rH b o h))|(exfalso;omega)) H.ro) rfl ?_;clear H;rintro v30 FX a w rfl H8 H;refine kH H (YM h27 rfl (YM h27 rfl ?_));clear H;intro a H;refine zl _ H (wg H rfl rfl h27) rfl rfl rfl (by omega) (by omega) rfl ?_;clear H;intro a H;rw [show ((i:Int) - 1)=((i - 1:Nat):Int) by omega] at H;refine kX H (wg H rfl rfl h27) rfl rfl (hf (i - 1) (by omega) _ _ (fun b o h=>by first|exact H8 b o (Cy b o (sV b o (rH b o h)))|(exfalso;omega)) H.ro) rfl ?_;clear H;rintro v34 LG a w rfl zT H;refine kH H (YC h27 rfl (Pt h27 rfl (aj K7 rfl (Cd rfl ?_ ?_)))) <;> clear H K7
   ·intro fC a H
    try have mR:=dT fC
    refine kP H (SR fun _ K8=>aj K8 rfl ?_);clear H K8;intro a H;refine lr H results125 rfl ?_
    exact O5
   intro fC a H
   try have mR:=dF fC
   refine kP H (Kc K2 (SR fun _ K9=>aj K9 rfl ?_));clear H K2 K9;intro a H;exact UM
  intro h27 a H
  try have p27:=dF h27
  refine kH H (bB h27 rfl (bB h27 rfl (aP h27 rfl (Pf h27 rfl (aj K7 rfl (Cf rfl rfl (Kc K2 (SR fun _ aW=>aj aW rfl ?_))))))));clear H K7 K2 aW;exact UK
 intro iV a H
 try have uo:=dF iV
 refine kH H (bB iV rfl (bB iV rfl (aP iV rfl (Pf iV rfl (aj K5 rfl (Cf rfl rfl (SR fun _ bM=>Rm rfl (Rc rfl (Rm rfl (Sp 27 rfl ?_ ?_)))))))))) <;> clear H K5
 ·intro h27 a H
  try have p27:=dT h27
  refine kH H (YM h27 rfl (YM h27 rfl ?_));clear H;intro a H;refine kX H (wg H rfl rfl h27) rfl rfl (hf i (Nat.lt_succ_self _) _ _ (fun b o h=>by first|exact Cy b o (sV b o (rH b o h))|(exfalso;omega)) H.ro) rfl ?_;clear H;rintro v30 FX a w rfl H8 H;refine kH H (YM h27 rfl (YM h27 rfl ?_));clear H;intro a H;refine zl _ H (wg H rfl rfl h27) rfl rfl rfl (by omega) (by omega) rfl ?_;clear H;intro a H;rw [show ((i:Int) - 1)=((i - 1:Nat):Int) by omega] at H;refine kX H (wg H rfl rfl h27) rfl rfl (hf (i - 1) (by omega) _ _ (fun b o h=>by first|exact H8 b o (Cy b o (sV b o (rH b o h)))|(exfalso;omega)) H.ro) rfl ?_;clear H;rintro v34 LG a w rfl zT H;refine kH H (YC h27 rfl (Pt h27 rfl (aj bM rfl (Cd rfl ?_ ?_)))) <;> clear H bM
  ·intro fC a H
   try have mR:=dT fC
   refine kP H (SR fun _ bU=>aj bU rfl ?_);clear H bU;intro a H;exact UM
  intro fC a H
  try have mR:=dF fC
  refine kP H (Kc K2 (SR fun _ bY=>aj bY rfl ?_));clear H K2 bY;exact UK
 intro h27 a H
 try have p27:=dF h27
 refine kH H (bB h27 rfl (bB h27 rfl (aP h27 rfl (Pf h27 rfl (aj bM rfl (Cf rfl rfl (Kc K2 (SR fun _ cZ=>aj cZ rfl ?_))))))));clear H bM K2 cZ;intro a H;refine lr H results125 rfl ?_
 exact O5
theorem mO:aQ 71:=aR func71 rfl
theorem sO:aQ 66:=aR func66 rfl
def xC (s:ByteArray):Bool:=decide (1<=s.size∧s.size<=40) && sG s
theorem aat (G:GH) (w0:World) (hG:Hold G w0) (s:ByteArray) (hs:s.size < 4611686018427387904):Calls prog 127 #[.string s] w0 (bK w0 G fun u G'=>u=.bool (xC s)∧G=G'):=by
 refine eN [(0,_)] func127 rfl ntmps127 rfl rfl hG ?_;intro a H;refine kP H (SR fun _ K1=>aj K1 rfl (SR fun _ K2=>Rm rfl (Rv iY rfl (Rc rfl (Rm rfl (Sp 6 rfl ?_ ?_)))))) <;> clear H K1
 ·intro h6 a H
  try have p6:=dT h6
  refine kH H (YM h6 rfl ?_);clear H;intro a H;refine FC iY H (wg H rfl rfl h6) rfl rfl ?_;clear H;intro a H;refine kH H (YC h6 rfl (Pt h6 rfl (Rm rfl (Sp 11 rfl ?_ ?_)))) <;> clear H
  ·intro h11 a H
   try have sj:=dT h11
   refine kH H (YM h11 rfl ?_);clear H;intro a H;refine s_call MJ H (wg H rfl rfl h11) rfl (Om _ _ H.ro s hs) rfl ?_;clear H;rintro v13 _ a w ⟨rfl,rfl⟩ - H;exact kH H (Pt h11 rfl (aj K2 rfl (LR results127 rfl fun H=>H.rt ⟨iK (by unfold xC;first|(simp_all;done)|(simp_all;omega)),rfl⟩)))
  intro h11 a H
  try have sj:=dF h11
  exact kH H (aP h11 rfl (Pf h11 rfl (aj K2 rfl (LR results127 rfl fun H=>H.rt ⟨iK (by unfold xC;first|(simp_all;done)|(simp_all;omega)),rfl⟩))))
 intro h6 a H
 try have p6:=dF h6
 exact kH H (bB h6 rfl (Pf h6 rfl (Rm rfl (aP rfl rfl (Pf rfl rfl (aj K2 rfl (LR results127 rfl fun H=>H.rt ⟨iK (by unfold xC;first|(simp_all;done)|(simp_all;omega)),rfl⟩)))))))
def Eo (s:ByteArray):Int:=dL [dz (!sG s) 12,dz (decide (1024 < (s.size:Int))) 10]
theorem Ac {G:GH} {b:Nat} {x y:Int} (h:G b=some (.cells #[vi x,vi y] 49 (0,0))):au G (.sl 1 ([x,y].map fun k=>[li k])) (.slice (some ⟨b,0,none⟩) 2 2) :=
 au.vV (n:=2) (cap:=2) h rfl (eu _) (show 2<=maxLen by decide) (nU (eu _)) (Fh G [x,y])
theorem ajR (G:GH) (w0:World) (hG:Hold G w0) (s:ByteArray) (hs:s.size < 4611686018427387904):Calls prog 190 #[.string s] w0 (bK w0 G fun u G'=>u=vi (Eo s)):=by
 refine eN [(0,_)] func190 rfl ntmps190 rfl rfl hG ?_;intro a H;refine kP H (SR fun _ K1=>aj K1 rfl (SR fun _ K2=>Rm rfl ?_));clear H K1;intro a H;refine s_call MJ H wn rfl (Om _ _ H.ro s hs) rfl ?_;clear H;rintro v4 _ a w ⟨rfl,rfl⟩ - H;refine kH H (Rn rfl ?_);clear H;intro a H;refine s_call mO H wn rfl (mY _ _ H.ro _ 12) rfl ?_;clear H;rintro v6 _ a w ⟨rfl,rfl⟩ - H;refine kH H (Rm rfl (Rv iY rfl (Rc rfl ?_)));clear H;intro a H;refine s_call mO H wn rfl (mY _ _ H.ro _ 10) rfl ?_;clear H;rintro v10 _ a w ⟨rfl,rfl⟩ - H;refine iT rP jv [_,_] [_,_] H wn rfl rfl rfl rfl rfl (by intro i q h;match i,h with|0,h=>exact h|1,h=>exact h|n+2,h=>simp at h) rfl rfl ?_;clear H;intro b11 a w J6 H;obtain ⟨zq,DW,Cr,H⟩:=H.fB;refine s_call sO H wn rfl (sQ _ _ H.ro _ _ (Ac Cr)) rfl ?_;clear H;rintro v12 _ a w ⟨rfl,rfl⟩ - H;exact kH H (aj K2 rfl (LR results190 rfl fun H=>H.rt rfl))
def Q9 (c:Int):Bool:=decide (97<=xD .or .u8 c 32) && decide (xD .or .u8 c 32<=122)
def KM (c:Int):Bool:=(decide (48<=c) && decide (c<=57)) || decide (c=45) || decide (c=95)
def NR (s:ByteArray) (k:Nat):Bool:=Q9 (gU s k) || (decide (k≠0) && KM (gU s k))
def xI (s:ByteArray):Bool:=decide (1<=s.size∧s.size<=40) && (List.range s.size).all (NR s)
theorem Jv {p:Prop} (h:p:=by
 first|(simp_all;done)|(simp_all;omega)):p:=h
theorem Ub {p:Prop} (h:p:=by
 first
  | exact H.rt ⟨iK (by
    unfold xI
    rw [show k=s.size by omega] at hall
    rw [hall,nT (by omega)];rfl),rfl⟩
  | exact H.rt ⟨iK (by
    unfold xI
    rw [show (List.range s.size).all (NR s)=false from List.all_eq_false.2 ⟨k,by simpa using hk2,by unfold NR;simp_all⟩,Bool.and_false]),rfl⟩):p:=h
theorem aaH {p:Prop} (h:p:=by
 exact ⟨by omega,by rw [List.range_succ,List.all_append,hall];simp [NR];simp_all⟩):p:=h
theorem acz {p:Prop} (h:p:=by
 intro h46 a H
 try have p46:=dT h46
 refine kH H (aP h46 rfl (aP h46 rfl (Pt h46 rfl (Ra rfl ?_))));clear H;intro a H;refine aD ?_;refine ⟨_,by exact H.sub ⟨rfl,rfl,rfl,rfl,rfl,rfl,aB⟩,?_⟩
 unfold KM;exact Jv):p:=h
theorem adR (G:GH) (w0:World) (hG:Hold G w0) (s:ByteArray) (hs:s.size < 4611686018427387904):Calls prog 192 #[.string s] w0 (bK w0 G fun u G'=>u=.bool (xI s)∧G=G'):=by
 refine eN [(0,_)] func192 rfl ntmps192 rfl rfl hG ?_;intro a H;refine kP H (SR fun _ K1=>aj K1 rfl (SQ fun _ K2=>SR fun _ K3=>Rm rfl (Rv iY rfl (Rc rfl (Rm rfl (Sp 10 rfl ?_ ?_)))))) <;> clear H K1
 ·intro h10 a H
  try have nN:=dT h10
  exact kH H (bB h10 rfl (Pt h10 rfl (Kz K3 (Ct rfl rfl (SR fun _ K4=>aj K4 rfl (LR results192 rfl fun H=>H.rt ⟨iK (by unfold xI;rw [qN (by omega)];rfl),rfl⟩))))))
 intro h10 a H
 try have nN:=dF h10
 refine kH H (YM h10 rfl ?_);clear H;intro a H;refine FC iY H (wg H rfl rfl h10) rfl rfl ?_;clear H;intro a H;refine kH H (YC h10 rfl (Pf h10 rfl (Kz K3 (Cd rfl ?_ ?_)))) <;> clear H K3
 ·intro iV a H
  try have uo:=dT iV
  exact kP H (SR fun _ K5=>aj K5 rfl (LR results192 rfl fun H=>H.rt ⟨iK (by unfold xI;rw [qN (by omega)];rfl),rfl⟩))
 intro iV a H
 try have uo:=dF iV
 refine kP H (Kc K2 (SQ fun _ K6=>SR fun _ K7=>Rm rfl (Rv iY rfl (Rm rfl (Kz K7 (SB ?_))))));clear H K2 K7;intro a H;skip;refine eX (ι:=Nat) (Tc:=[(0,_),(16,_)]) (Lc:=[]) (fun gh=>[(17,vi gh)]) (fun gh=>[]) (fun gh=>G) (fun gh=>gh<=s.size∧(List.range gh).all (NR s)=true) (fun gh=>s.size - gh) (0) (by exact H.sub ⟨rfl,rfl,rfl,aB⟩) ?_ ?_
 ·exact Ju
 clear H;intro k a w hI H;obtain ⟨hk,hall⟩:=hI;dsimp only [lca,bJ] at H;refine kP H (SR fun _ K8=>Rc rfl (Kz K8 (SQ fun _ K9=>Cd rfl ?_ ?_))) <;> clear H K8
 ·intro h18 a H
  try have Ef:=dT h18
  have hk2:k < s.size:=by omega
  refine kP H (Kc K9 (SQ fun _ aW=>SB (SR fun _ bM=>Rm rfl (aj bM rfl (SR fun _ bU=>Rm rfl (Rm rfl ?_))))));clear H K9 bM;intro a H;refine qW k iY H wn rfl rfl rfl (by omega) rfl ?_;clear H;intro a H;rw [<- oQ] at H;refine Sk rfl H wn rfl rfl rfl ?_;clear H;intro a H;refine kH H (aj bU rfl ?_);clear H bU;intro a H;refine tT (ι:=Bool) (Tc:=[(0,_),(3,_),(16,_),(17,_)]) (Lc:=[]) (fun gh=>[(5,.bool gh)]) (fun gh=>[]) (fun gh=>G) (fun gh=>gh=Q9 (gU s k)) (by exact H.sub ⟨rfl,rfl,rfl,rfl,aB⟩) ?_ ?_
  ·skip;refine kP H (SC (Rm rfl (Rc rfl (Rm rfl (Sp 26 rfl ?_ ?_))))) <;> clear H
   ·intro jC a H
    try have p26:=dT jC
    refine kH H (YM jC rfl (YC jC rfl (Pt jC rfl (Ra rfl ?_))));clear H;intro a H;refine aD ?_;refine ⟨_,by exact H.sub ⟨rfl,rfl,rfl,rfl,rfl,aB⟩,?_⟩
    unfold Q9;exact Jv
   intro jC a H
   try have p26:=dF jC
   refine kH H (aP jC rfl (Pf jC rfl (Ra rfl ?_)));clear H;intro a H;refine aD ?_;refine ⟨_,by exact H.sub ⟨rfl,rfl,rfl,rfl,rfl,aB⟩,?_⟩
   unfold Q9;exact Jv
  clear H;intro lt a w hI H;have hlt:=hI;dsimp only [lca,bJ] at H;refine tT (ι:=Bool) (Tc:=[(0,_),(3,_),(5,_),(16,_),(17,_)]) (Lc:=[]) (fun gh=>[(6,.bool gh)]) (fun gh=>[]) (fun gh=>G) (fun gh=>gh=KM (gU s k)) (by exact H.sub ⟨rfl,rfl,rfl,rfl,rfl,aB⟩) ?_ ?_
  ·skip;refine kP H (SC (Rm rfl (Rm rfl ?_)));clear H;intro a H;refine qW k iY H wn rfl rfl rfl (by omega) rfl ?_;clear H;intro a H;rw [<- oQ] at H;refine kH H (Rc rfl (Rm rfl (Sp 34 rfl ?_ ?_))) <;> clear H
   ·intro fq a H
    try have p34:=dT fq
    refine kH H (YM fq rfl (YM fq rfl ?_));clear H;intro a H;refine qW k iY H (wg H rfl rfl fq) rfl rfl rfl (by omega) rfl ?_;clear H;intro a H;rw [<- oQ] at H;refine kH H (YC fq rfl (Pt fq rfl (Rm rfl (Sp 40 rfl ?_ ?_)))) <;> clear H
    ·intro lD a H
     try have p40:=dT lD
     refine kH H (aP lD rfl (aP lD rfl (Pt lD rfl (Rm rfl (aP rfl rfl (aP rfl rfl (Pt rfl rfl (Ra rfl ?_))))))));clear H;intro a H;refine aD ?_;refine ⟨_,by exact H.sub ⟨rfl,rfl,rfl,rfl,rfl,rfl,aB⟩,?_⟩
     unfold KM;exact Jv
    intro lD a H
    try have p40:=dF lD
    refine kH H (YM lD rfl (YM lD rfl ?_));clear H;intro a H;refine qW k iY H (wg H rfl rfl lD) rfl rfl rfl (by omega) rfl ?_;clear H;intro a H;rw [<- oQ] at H;refine kH H (YC lD rfl (Pf lD rfl (Rm rfl (Sp 46 rfl ?_ ?_)))) <;> clear H
    ·exact acz
    intro h46 a H
    try have p46:=dF h46
    refine kH H (YM h46 rfl (YM h46 rfl ?_));clear H;intro a H;refine qW k iY H (wg H rfl rfl h46) rfl rfl rfl (by omega) rfl ?_;clear H;intro a H;rw [<- oQ] at H;refine kH H (YC h46 rfl (Pf h46 rfl (Ra rfl ?_)));clear H;intro a H;refine aD ?_;refine ⟨_,by exact H.sub ⟨rfl,rfl,rfl,rfl,rfl,rfl,aB⟩,?_⟩
    unfold KM;exact Jv
   intro fq a H
   try have p34:=dF fq
   refine kH H (aP fq rfl (aP fq rfl (Pf fq rfl (Rm rfl ?_))));clear H;intro a H;(iterate 2 refine FE H (wg H rfl rfl rfl) rfl rfl ?_;clear H;intro a H);refine qW k iY H (wg H rfl rfl rfl) rfl rfl rfl (by omega) rfl ?_;clear H;intro a H;rw [<- oQ] at H;refine Fz H (wg H rfl rfl rfl) rfl rfl rfl rfl ?_;clear H;intro a H;refine kH H (Pf rfl rfl (Rm rfl (Sp 46 rfl ?_ ?_))) <;> clear H
   ·exact acz
   intro h46 a H
   try have p46:=dF h46
   refine kH H (YM h46 rfl (YM h46 rfl ?_));clear H;intro a H;refine qW k iY H (wg H rfl rfl h46) rfl rfl rfl (by omega) rfl ?_;clear H;intro a H;rw [<- oQ] at H;refine kH H (YC h46 rfl (Pf h46 rfl (Ra rfl ?_)));clear H;intro a H;refine aD ?_;refine ⟨_,by exact H.sub ⟨rfl,rfl,rfl,rfl,rfl,rfl,aB⟩,?_⟩
   unfold KM;exact Jv
  clear H;intro ot a w hI H;have hot:=hI;dsimp only [lca,bJ] at H;refine kP H (SR fun _ bY=>Rm rfl (Rn rfl (Rm rfl (Sp 54 rfl ?_ ?_)))) <;> clear H
  ·intro iC a H
   try have p54:=dT iC
   refine kH H (YM iC rfl (YC iC rfl (YM iC rfl (Sp 57 rfl ?_ ?_)))) <;> clear H
   ·intro h57 a H
    try have p57:=dT h57
    refine kH H (aP h57 rfl (PT iC h57 rfl (Pt iC rfl (Kz bY (Ct rfl rfl (SR fun _ cZ=>aj cZ rfl ?_))))));clear H bY cZ;intro a H;refine lr H results192 rfl ?_
    exact Ub
   intro h57 a H
   try have p57:=dF h57
   refine kH H (YM h57 rfl (YN h57 rfl (PF iC h57 rfl (Pt iC rfl (Kz bY (Cd rfl ?_ ?_)))))) <;> clear H bY
   ·intro Hl a H
    try have p61:=dT Hl
    refine kP H (SR fun _ dQ=>aj dQ rfl ?_);clear H dQ;intro a H;refine lr H results192 rfl ?_
    exact Ub
   intro Hl a H
   try have p61:=dF Hl
   refine kP H (Kc aW (SC (Rd rfl (Rm rfl ?_))));clear H aW;intro a H;refine aD ?_;refine dG ((k+1)) (by exact H.sub ⟨rfl,rfl,rfl,aB⟩) ?_
   exact aaH
  intro iC a H
  try have p54:=dF iC
  refine kH H (bB iC rfl (Ku rfl (Ku rfl (Ks iC rfl (Pf iC rfl (Kz bY (Cf rfl rfl (Kc aW (SC (Rd rfl (Rm rfl ?_)))))))))));clear H bY aW;intro a H;refine aD ?_;refine dG ((k+1)) (by exact H.sub ⟨rfl,rfl,rfl,aB⟩) ?_
  exact aaH
 intro h18 a H
 try have Ef:=dF h18
 refine dP ?_;refine K6 _ _ ?_;clear K6;refine kP H (SR fun _ dR=>aj dR rfl ?_);clear H dR;intro a H;refine lr H results192 rfl ?_
 exact Ub
section
section
variable {N:Nat} {D:List Deferred} {w0:World} {F:Nat->Prop} {G0 G:GH} {L:OL} {T:List (Nat × ah)}
variable {r:Option Nat} {P:Program} {ops:Array Oper} {Q:Exit->Act->World->Prop} {rest:List Oper} {a:Act} {w:World}
variable {d:Nat} {ty:TypeId} {pos:String} {aN:Array Edge} {g:Option (Nat × Bool)}
end
end
section
section
variable {N:Nat} {D:List Deferred} {w0:World} {F:Nat->Prop} {G0 G:GH} {L:OL} {T T':List (Nat × ah)}
variable {r:Option Nat} {P:Program} {Q:Exit->Act->World->Prop} {l:List Oper} {a a':Act} {w w':World} {ε:Type}
def Ji (l:List Oper) (pr:ε->Nat->ah->Prop) (T:List (Nat × ah)) (S:Nat->Bool) (E:ε) (T':List (Nat × ah)):Prop :=
 (∀ t v,lk T t=some v->lk T' t=some v)∧∀ i d,S i=true->eB l i=some d->∃ v,lk T' d=some v∧pr E i v
theorem Ji.put {pr:ε->Nat->ah->Prop} {S:Nat->Bool} {E E':ε} {i d:Nat} {v:ah} (h:Ji l pr T S E T') (hok:aod l T=true) (hi:eB l i=some d) (hv:pr E' i v) (hE:∀ j u,j≠i->pr E j u->pr E' j u):Ji l pr T (dB S i) E' ((d,v) :: T'):=by
 have hil:=uP hi
 have hok1:=jI.1 hok i (vD.2 hil)
 rw [pQ,hi] at hok1
 simp only [ji,Option.isNone_iff_eq_none,jI,vD] at hok1
 refine ⟨fun t u ht=>?_,fun j e hj he=>?_⟩
 ·rw [wQ (fun e=>by subst e;rw [hok1.1] at ht;cases ht)];exact h.1 t u ht
 ·by_cases hji:j=i
  ·subst hji;rw [hi] at he;cases he;exact ⟨v,xS _ _ _,hv⟩
  ·have hSj:S j=true:=by unfold dB at hj;rwa [av hji] at hj
   obtain ⟨u,hu1,hu2⟩:=h.2 j e hSj he
   have hne:d≠e:=by
    intro e';subst e'
    have h2:=hok1.2 j (uP he)
    have hb:Nat.beq i j=false:=uK (fun h=>hji h.symm)
    rw [hb,he] at h2
    simp at h2
   exact ⟨u,by rw [wQ hne];exact hu1,hE j u hji hu2⟩
theorem Ji.add {pr:ε->Nat->ah->Prop} {S:Nat->Bool} {E:ε} (h:Ji l pr T S E T') {t:Nat} {u:ah} (hu:lk T' t=some u):Ji l pr T S E ((t,u) :: T'):=by
 have e:∀ s v,lk T' s=some v->lk ((t,u) :: T') s=some v:=fun s v hs=>by
  by_cases hst:t=s
  ·subst hst;rw [hu] at hs;cases hs;exact xS _ _ _
  ·rw [wQ hst];exact hs
 exact ⟨fun s v hs=>e s v (h.1 s v hs),fun i d hi hd=>by
  obtain ⟨v,h1,h2⟩:=h.2 i d hi hd
  exact ⟨v,e d v h1,h2⟩⟩
end
end
section
section
variable {N:Nat} {D:List Deferred} {w0:World} {F:Nat->Prop} {G0 G G1 G2:GH} {L L1:OL} {T Xs:List (Nat × ah)}
variable {r:Option Nat} {P:Program} {Q:Exit->Act->World->Prop} {l:List Oper} {a a':Act} {w w':World}
theorem GR {id:Nat} (hm:P.follows .mixedOrders=true) (bL:List (List Nat)) (B:List Nat) (hk:yH l bL=true) (hB:wV l bL B=true) (X:(Nat->Bool)->Act->World->Prop) (h0:X (fun _=>false) a w.drew)
  (hstep:∀ i o S a w,l[i]?=some o->B.contains i=false->S i=false->(∀ j∈bL.getD i [],S j=true)->(∀ j,j < l.length->i∈bL.getD j []->S j=false)->X S a w->WL r P l.toArray (fun e a' w'=>e=.normal∧X (dB S i) a' w') [o] a w)
  (hend:∀ S a w,(∀ i,i < l.length->B.contains i=false->S i=true)->(∀ i,B.contains i=true->S i=false)->X S a w->WL r P l.toArray (fun e a w=>e=.normal∧Q .normal a w) (qC l B) a w):WP r P (.region id l.toArray true) Q a w:=by
 have hB1:∀ p b,B[p]?=some b->b < l.length∧∀ i,i < l.length->(B.contains i=false∨(B.take p).contains i=true)->i∈bL.getD b []:=by
  intro p b hp
  simp only [wV,ji] at hB
  have h1:=jI.1 hB.1 p (vD.2 (jQ.1 hp).1)
  rw [hp] at h1
  simp only [ji,jI,vD] at h1
  refine ⟨Eq.mp Nat.blt_eq h1.1,fun i hi hor=>?_⟩
  have h2:=h1.2 i hi
  rcases hor with h3|h3
  ·have h4:i∉B:=by simpa using h3
   simpa [h4] using h2
  ·have h4:i∈B.take p:=by simpa using h3
   simpa [h4] using h2
 have hB2:∀ i,i < l.length->B.contains i=false->∀ j∈bL.getD i [],B.contains j=false:=by
  intro i hi hb j hj
  simp only [wV,ji] at hB
  have h1:=jI.1 hB.2 i (vD.2 hi)
  rw [hb] at h1
  simp only [Bool.false_or,jI] at h1
  simpa using h1 j hj
 refine adj hm bL hk (fun S a w=>((∀ i,B.contains i=true->S i=false)∧X S a w) ∨
   ∃ p,(∀ i,i < l.length->B.contains i=false->S i=true)∧(∀ i,(B.take p).contains i=true->S i=true)∧(∀ q b,B[q]?=some b->p<=q->S b=false)∧WL r P l.toArray (fun e a w=>e=.normal∧Q .normal a w) (qC l (B.drop p)) a w)
  (.inl ⟨fun _ _=>rfl,h0⟩) ?_ ?_
 ·intro i o S a w ho hX aO kI hdesc
  have hil:i < l.length:=(jQ.1 ho).1
  by_cases hbi:B.contains i=true
  ·-- an operation of the tail: all that stands ahead of it is done
   obtain ⟨p0,hp0⟩:=List.getElem?_of_mem (by simpa using hbi:i∈B)
   have hall:∀ j,j < l.length->B.contains j=false->S j=true:=fun j hj hb=>kI j ((hB1 p0 i hp0).2 j hj (.inl hb))
   have Xq:∃ p,(∀ i,(B.take p).contains i=true->S i=true)∧(∀ q b,B[q]?=some b->p<=q->S b=false)∧WL r P l.toArray (fun e a w=>e=.normal∧Q .normal a w) (qC l (B.drop p)) a w:=by
    rcases hX with ⟨h1,hD⟩|⟨p,_,h2,h3,h4⟩
    ·exact ⟨0,by simp,fun q b hq _=>h1 b (by simpa using lQ hq),hend S a w hall h1 hD⟩
    ·exact ⟨p,h2,h3,h4⟩
   obtain ⟨p,h2,h3,h4⟩:=Xq
   -- i is the next one
   have hpp:p<=p0:=by
    rcases Nat.lt_or_ge p0 p with hlt|hge
    ·have:(B.take p).contains i=true:=by
      simp only [qM]
      exact lQ (i:=p0) (by rw [uH,aG hlt];exact hp0)
     rw [h2 i this] at aO;cases aO
    ·exact hge
   have Ie:p < B.length:=by have:=(jQ.1 hp0).1;omega
   have hbp:B[p]?=some B[p]:=dV Ie
   have heq:B[p]=i:=by
    rcases Nat.lt_or_ge p p0 with hlt|hge
    ·exfalso
     have hin:B[p]∈bL.getD i []:=(hB1 p0 i hp0).2 _ (hB1 p _ hbp).1 (.inr (by
      simp only [qM]
      exact lQ (i:=p) (by rw [uH,aG hlt];exact hbp)))
     have:=kI _ hin
     rw [h3 p _ hbp (eu _)] at this;cases this
    ·have:p=p0:=by omega
     subst this
     rw [hbp] at hp0;simpa using hp0
   have hdrop:B.drop p=i :: B.drop (p+1):=by rw [oF Ie,heq]
   have hops:qC l (B.drop p)=o :: qC l (B.drop (p+1)):=by rw [hdrop];simp [qC,ho]
   rw [hops] at h4
   refine akI (fun a' w' h5=>.inr ⟨p+1,fun j hj hb=>?_,fun j hj=>?_,fun q b hq hpq=>?_,h5⟩) h4
   ·unfold dB;split
    ·rfl
    ·exact hall j hj hb
   ·unfold dB;split
    ·rfl
    ·rename_i hne
     refine h2 j ?_
     simp only [qM] at hj |-
     rw [kg Ie,jA] at hj
     rcases hj with hj|hj
     ·exact hj
     ·simp only [pG] at hj;exact absurd (hj.trans heq) hne
   ·unfold dB
    rw [av ?_]
    ·exact h3 q b hq (by omega)
    ·rintro rfl
     -- i would stand twice in B: it would come ahead of itself
     have h6:=(hB1 q b hq).2 b (hB1 q b hq).1 (.inr (by
      simp only [qM]
      exact lQ (i:=p) (by rw [uH,aG (by omega)];rw [hbp,heq])))
     rw [kI _ h6] at aO;cases aO
  ·have HY:B.contains i=false:=by cases h:B.contains i with|false=>rfl|true=>exact absurd h hbi
   rcases hX with ⟨h1,hX⟩|⟨p,h0,_,_,_⟩
   ·refine oN (fun e a' w' ⟨he,hD⟩=>⟨he,.inl ⟨fun j hj=>?_,hD⟩⟩) (hstep i o S a w ho HY aO kI hdesc hX)
    unfold dB
    rw [av (by rintro rfl;rw [HY] at hj;cases hj)]
    exact h1 j hj
   ·rw [h0 i hil HY] at aO;cases aO
 ·intro S a w hall hX
  rcases hX with ⟨h1,hD⟩|⟨p,_,_,h3,h4⟩
  ·have hnil:B=[]:=by
    cases B with
    | nil=>rfl
    | cons b B=>have h5:=h1 b (by simp);rw [hall b (hB1 0 b rfl).1] at h5;cases h5
   subst hnil
   exact (hend S a w (fun j hj _=>hall j hj) h1 hD).2
  ·have hnil:B.drop p=[]:=by
    cases hd:B.drop p with
    | nil=>rfl
    | cons b B' =>
     have hb:B[p]?=some b:=by
      have:=dh (fun x:List Nat=>x[0]?) hd
      simpa using this
     have h5:=h3 p b hb (eu _)
     rw [hall b (hB1 p b hb).1] at h5;cases h5
   rw [hnil] at h4
   exact h4.2
theorem amo {id:Nat} (hm:P.follows .mixedOrders=true) (bL:List (List Nat)) (B:List Nat) (hk:yH l bL=true) (hB:wV l bL B=true) (m:Nat) (Nh:B.contains m=false) (ob:Obj) (pr:Nat->Nat->ah->GH->Prop)
  (Nq:∀ b b' i v G,i≠m->pr b i v G->pr b' i v G) (H:St N D w0 F G0 G L T a w)
  (hstep:allI (fun i o=>∀ b L' S a w G1,B.contains i=false->Nat.beq i m=false->S i=false->(∀ j∈bL.getD i [],S j=true)->(∀ k o,G k=some o->G1 k=some o)->St N D w0 F G0 G1 L' T a w->(∀ i d,S i=true->eB l i=some d->∃ v,a.tmps[d]?=some v∧pr b i v G1) ->
   WL r P l.toArray (fun e a' w'=>e=.normal∧DX N D w0 F G0 G L' T l (pr b) (dB S i) a' w') [o] a w) 0 l)
  (hmid:∀ o S a w G1,l[m]?=some o->S m=false->(∀ j∈bL.getD m [],S j=true)->(∀ k o,G k=some o->G1 k=some o)->St N D w0 F G0 G1 L T a w->(∀ b i d,i≠m->S i=true->eB l i=some d->∃ v,a.tmps[d]?=some v∧pr b i v G1) ->
   WL r P l.toArray (fun e a' w'=>e=.normal∧∃ b,DX N D w0 F G0 G ((b,ob) :: L) T l (pr b) (dB S m) a' w') [o] a w)
  (hend:∀ b a w G1,(∀ k o,G k=some o->G1 k=some o)->St N D w0 F G0 G1 ((b,ob) :: L) T a w->(∀ i d,B.contains i=false->eB l i=some d->∃ v,a.tmps[d]?=some v∧pr b i v G1)->WL r P l.toArray (fun e a w=>e=.normal∧Q .normal a w) (qC l B) a w)
  (hml:Nat.blt m l.length=true):WP r P (.region id l.toArray true) Q a w:=by
 refine GR hm bL B hk hB (fun S a w=>∃ b L',(S m=false->L'=L)∧(S m=true->L'=(b,ob) :: L)∧DX N D w0 F G0 G L' T l (pr b) S a w)
  ⟨0,L,fun _=>rfl,fun h=>absurd (show false=true from h) (by decide),G,fun _ _ h=>h,H.move H.hp.drew,fun _ _ h=>absurd (show false=true from h) (by decide)⟩ ?_ ?_
 ·rintro i o S a w ho hb aO kI hdesc ⟨b,L',h1,h2,G1,hG,HS,hv⟩
  by_cases him:i=m
  ·subst him
   have e:=h1 aO;subst e
   have h:=hmid o S a w G1 ho aO kI hG HS fun b' j d hj hSj hd=>by
    obtain ⟨v,hv1,hv2⟩:=hv j d hSj hd
    exact ⟨v,hv1,Nq b b' j v _ hj hv2⟩
   have e1:dB S i i=true:=aG rfl
   exact oN (fun e a' w' ⟨he,b',hD⟩=>⟨he,b',_,fun h=>absurd (e1.symm.trans h) (by decide),fun _=>rfl,hD⟩) h
  ·have h:=zD hstep i o ho
   rw [gI] at h
   have e:dB S i m=S m:=av (fun h=>him h.symm)
   exact oN (fun e' a' w' ⟨he,hD⟩=>⟨he,b,L',fun h=>h1 (e ▸ h),fun h=>h2 (e ▸ h),hD⟩) (h b L' S a w G1 hb (uK him) aO kI hG HS hv)
 ·rintro S a w hall Ko ⟨b,L',h1,h2,G1,hG,HS,hv⟩
  have Ki:S m=true:=hall m (Eq.mp Nat.blt_eq hml) Nh
  have e:=h2 Ki;subst e
  exact hend b a w G1 hG HS fun j d hb hd=>hv j d (hall j (uP hd) hb) hd
theorem aem {pr:Nat->ah->GH->Prop} {S:Nat->Bool} {i d:Nat} {v:ah} (hok:pQ l T i=true) (hi:eB l i=some d) 
  (HT:St N D w0 F G0 G1 L T a w) (Hb:St N D w0 F G0 G1 L (Xs++full N a) a w) (hG:∀ k o,G k=some o->G1 k=some o) (hv:∀ j d,j≠i->S j=true->eB l j=some d->∃ v,a.tmps[d]?=some v∧pr j v G1)
  (hp:pr i v G1) (H:St N D w0 F G0 G1 L1 ((d,v) :: (Xs++full N a)) a' w'):DX N D w0 F G0 G L1 T l pr (dB S i) a' w':=by
 have hil:i < l.length:=uP hi
 have hok1:=hok
 rw [pQ,hi] at hok1
 simp only [ji,Option.isNone_iff_eq_none,jI,vD] at hok1
 have hsame:∀ t,t≠d->a'.tmps[t]?=a.tmps[t]?:=by
  intro t ht
  by_cases hlt:t < N
  ·have h1:∃ u,lk (Xs++full N a) t=some u:=by
    rw [Q7]
    cases lk Xs t with
    | some u=>exact ⟨u,rfl⟩
    | none=>exact ⟨_,Q8 a hlt⟩
   obtain ⟨u,hu⟩:=h1
   rw [Hb.get t u hu,H.get t u (by rw [wQ (Ne.symm ht)];exact hu)]
  ·rw [Array.getElem?_eq_none (by rw [H.oG];omega),Array.getElem?_eq_none (by rw [Hb.oG];omega)]
 refine ⟨G1,hG,⟨H.oG,fun t u ht=>?_,H.uO,H.hp⟩,fun j e hj he=>?_⟩
 ·rw [hsame t (fun e=>by rw [e,hok1.1] at ht;cases ht)]
  exact HT.get t u ht
 ·by_cases hji:j=i
  ·subst hji
   rw [hi] at he
   simp only [pE] at he
   subst he
   exact ⟨v,H.get d v (xS _ _ _),hp⟩
  ·have hSj:S j=true:=by unfold dB at hj;rwa [av hji] at hj
   obtain ⟨u,hu1,hu2⟩:=hv j e hji hSj he
   have hne:e≠d:=by
    intro e'
    subst e'
    have h2:=hok1.2 j (uP he)
    rw [uK (fun h=>hji h.symm),he] at h2
    simp at h2
   exact ⟨u,by rw [hsame e hne];exact hu1,hu2⟩
end
end
end Go.Proofs.YtdiflmikikiedaaGreat
