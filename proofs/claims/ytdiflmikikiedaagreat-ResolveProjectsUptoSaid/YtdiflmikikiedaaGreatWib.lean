/-
  What the claim stands on, part 2: Cp Run Rg Pos Pq Doc Dq Idx Plc Plr Hv Prk Dlf Prp Prq Prc Pst Ehd Dc24 Bld Fst Nam Pn De Dj Dk Dw Lsc Dm.
-/
import Derived.Test.YtdiflmikikiedaaGreatWia
import Derived.Test.YtdiflmikikiedaaGreatRows
namespace Go.Proofs.YtdiflmikikiedaaGreat
set_option linter.all false
open Go.Proofs.Tryz
open Go.RowKit
theorem mJ:prog.underlying 3=some (.int .i64):=by kernel_rfl
theorem Oi:prog.underlying 5=some (.int .u8):=by kernel_rfl
theorem iT:prog.underlying 9=some .string:=by kernel_rfl
theorem amS:aQ 268:=aR func268 rfl
theorem amF:aQ 249:=aR func249 rfl
theorem amt:aQ 225:=aR func225 rfl
theorem Mv:aQ 193:=aR func193 rfl
def yx (b:Int):Int × Int × Int :=
  (if b=224 then 160 else if b=240 then 144 else 128,if b=237 then 159 else if b=244 then 143 else 191,
   if b < 128 then 1 else if b < 194∨244 < b then 0 else if b < 224 then 2 else if b < 240 then 3 else 4)
theorem YV (b:Int):0<=(yx b).2.2∧(yx b).2.2<=4:=by
 simp only [yx];split
 ·omega
 split
 ·omega
 split
 ·omega
 split <;> omega
theorem mX {p:Prop} (h:p:=by
 first|(exfalso;omega)|exact H.rt ⟨by simp only [yx];repeat (first|rw [nE]|rw [dL]),rfl⟩):p:=h
theorem axi (G:GH) (w0:World) (hG:Hold G w0) (b:Int) :
  Calls prog 268 #[.int .u8 b] w0 (bE w0 G fun v G'=>v=.tuple #[.int .u8 (yx b).1,.int .u8 (yx b).2.1,.int .i64 (yx b).2.2]∧G=G'):=by
 refine eN [(0,_)] func268 rfl ntmps268 rfl rfl hG ?_;intro a H;refine kP H (SR fun _ K1=>Ra rfl (Ra rfl (aj K1 rfl (SR fun _ K2=>Ra rfl (aj K2 rfl (SQ fun _ K3=>SB (SR fun _ K4=>Rm rfl (Rc rfl (aj K4 rfl (Cd rfl ?_ ?_)))))))))) <;> clear H K1 K2 K4
 ·intro h5 a H
  try have p5:=dT h5
  refine kP H (SC (bG K3 rfl (SQ fun _ K5=>SR fun _ K6=>Rm rfl (Kz K6 (SB (SR fun _ K7=>Rc rfl (aj K7 rfl (Cd rfl ?_ ?_)))))))) <;> clear H K3 K6 K7
  ·intro h22 a H
   try have oW:=dT h22
   refine kP H (SC (bG K5 rfl (SR fun _ K8=>Rm rfl (Rm rfl (Rm rfl (Ra rfl (Ra rfl (aj K8 rfl ?_))))))));clear H K5 K8;intro a H;refine dw ?_;refine (fJ H results268 (.cons (bB H rfl) (.cons (bB H rfl) (.cons (bB H rfl) .nil))) ?_).1
   exact mX
  intro h22 a H
  try have oW:=dF h22
  refine kP H (SR fun _ K9=>Rc rfl (aj K9 rfl (Cd rfl ?_ ?_))) <;> clear H K9
  ·intro bS a H
   try have jP:=dT bS
   refine kP H (SC (bG K5 rfl (SR fun _ aS=>Rm rfl (Rm rfl (Rm rfl (Ra rfl (Ra rfl (aj aS rfl ?_))))))));clear H K5 aS;intro a H;refine dw ?_;refine (fJ H results268 (.cons (bB H rfl) (.cons (bB H rfl) (.cons (bB H rfl) .nil))) ?_).1
   exact mX
  intro bS a H
  try have jP:=dF bS
  refine kP H (SR fun _ bH=>Rc rfl (aj bH rfl (Cd rfl ?_ ?_))) <;> clear H bH
  ·intro jw a H
   try have p26:=dT jw
   refine kP H (SC (bG K5 rfl (SR fun _ bT=>Rm rfl (Rm rfl (Rm rfl (Ra rfl (Ra rfl (aj bT rfl ?_))))))));clear H K5 bT;intro a H;refine dw ?_;refine (fJ H results268 (.cons (bB H rfl) (.cons (bB H rfl) (.cons (bB H rfl) .nil))) ?_).1
   exact mX
  intro jw a H
  try have p26:=dF jw
  refine kP H (SR fun _ cK=>Rc rfl (aj cK rfl (Cd rfl ?_ ?_))) <;> clear H cK
  ·intro gD a H
   try have p28:=dT gD
   refine kP H (SC (bG K5 rfl (SR fun _ dB=>Rm rfl (Rm rfl (Rm rfl (Ra rfl (Ra rfl (aj dB rfl ?_))))))));clear H K5 dB;intro a H;refine dw ?_;refine (fJ H results268 (.cons (bB H rfl) (.cons (bB H rfl) (.cons (bB H rfl) .nil))) ?_).1
   exact mX
  intro gD a H
  try have p28:=dF gD
  refine kP H (Kc K5 (SR fun _ eU=>Rm rfl (Rm rfl (Rm rfl (Ra rfl (Ra rfl (aj eU rfl ?_)))))));clear H K5 eU;intro a H;refine dw ?_;refine (fJ H results268 (.cons (bB H rfl) (.cons (bB H rfl) (.cons (bB H rfl) .nil))) ?_).1
  exact mX
 intro h5 a H
 try have p5:=dF h5
 refine kP H (SR fun _ eX=>Rm rfl (Rc rfl (Rm rfl (Sp 11 rfl ?_ ?_)))) <;> clear H
 ·intro h11 a H
  try have sF:=dT h11
  refine kH H (aJ h11 rfl (Pt h11 rfl (aj eX rfl (Ct rfl rfl (SC (bG K3 rfl (SQ fun _ eG=>SR fun _ fC=>Rm rfl (Kz fC (SB (SR fun _ gX=>Rc rfl (aj gX rfl (Cd rfl ?_ ?_)))))))))))) <;> clear H eX K3 fC gX
  ·intro h22 a H
   try have oW:=dT h22
   refine kP H (SC (bG eG rfl (SR fun _ fM=>Rm rfl (Rm rfl (Rm rfl (Ra rfl (Ra rfl (aj fM rfl ?_))))))));clear H eG fM;intro a H;refine dw ?_;refine (fJ H results268 (.cons (bB H rfl) (.cons (bB H rfl) (.cons (bB H rfl) .nil))) ?_).1
   exact mX
  intro h22 a H
  try have oW:=dF h22
  refine kP H (SR fun _ iI=>Rc rfl (aj iI rfl (Cd rfl ?_ ?_))) <;> clear H iI
  ·intro bS a H
   try have jP:=dT bS
   refine kP H (SC (bG eG rfl (SR fun _ jH=>Rm rfl (Rm rfl (Rm rfl (Ra rfl (Ra rfl (aj jH rfl ?_))))))));clear H eG jH;intro a H;refine dw ?_;refine (fJ H results268 (.cons (bB H rfl) (.cons (bB H rfl) (.cons (bB H rfl) .nil))) ?_).1
   exact mX
  intro bS a H
  try have jP:=dF bS
  refine kP H (SR fun _ mK=>Rc rfl (aj mK rfl (Cd rfl ?_ ?_))) <;> clear H mK
  ·intro jw a H
   try have p26:=dT jw
   refine kP H (SC (bG eG rfl (SR fun _ mD=>Rm rfl (Rm rfl (Rm rfl (Ra rfl (Ra rfl (aj mD rfl ?_))))))));clear H eG mD;intro a H;refine dw ?_;refine (fJ H results268 (.cons (bB H rfl) (.cons (bB H rfl) (.cons (bB H rfl) .nil))) ?_).1
   exact mX
  intro jw a H
  try have p26:=dF jw
  refine kP H (SR fun _ kY=>Rc rfl (aj kY rfl (Cd rfl ?_ ?_))) <;> clear H kY
  ·intro gD a H
   try have p28:=dT gD
   refine kP H (SC (bG eG rfl (SR fun _ om=>Rm rfl (Rm rfl (Rm rfl (Ra rfl (Ra rfl (aj om rfl ?_))))))));clear H eG om;intro a H;refine dw ?_;refine (fJ H results268 (.cons (bB H rfl) (.cons (bB H rfl) (.cons (bB H rfl) .nil))) ?_).1
   exact mX
  intro gD a H
  try have p28:=dF gD
  refine kP H (Kc eG (SR fun _ oq=>Rm rfl (Rm rfl (Rm rfl (Ra rfl (Ra rfl (aj oq rfl ?_)))))));clear H eG oq;intro a H;refine dw ?_;refine (fJ H results268 (.cons (bB H rfl) (.cons (bB H rfl) (.cons (bB H rfl) .nil))) ?_).1
  exact mX
 intro h11 a H
 try have sF:=dF h11
 refine kH H (YM h11 rfl (YC h11 rfl (Pf h11 rfl (aj eX rfl (Cd rfl ?_ ?_))))) <;> clear H eX
 ·intro h8 a H
  try have p8:=dT h8
  refine kP H (SC (bG K3 rfl (SQ fun _ kZ=>SR fun _ qm=>Rm rfl (Kz qm (SB (SR fun _ qD=>Rc rfl (aj qD rfl (Cd rfl ?_ ?_)))))))) <;> clear H K3 qm qD
  ·intro h22 a H
   try have oW:=dT h22
   refine kP H (SC (bG kZ rfl (SR fun _ qP=>Rm rfl (Rm rfl (Rm rfl (Ra rfl (Ra rfl (aj qP rfl ?_))))))));clear H kZ qP;intro a H;refine dw ?_;refine (fJ H results268 (.cons (bB H rfl) (.cons (bB H rfl) (.cons (bB H rfl) .nil))) ?_).1
   exact mX
  intro h22 a H
  try have oW:=dF h22
  refine kP H (SR fun _ rR=>Rc rfl (aj rR rfl (Cd rfl ?_ ?_))) <;> clear H rR
  ·intro bS a H
   try have jP:=dT bS
   refine kP H (SC (bG kZ rfl (SR fun _ qQ=>Rm rfl (Rm rfl (Rm rfl (Ra rfl (Ra rfl (aj qQ rfl ?_))))))));clear H kZ qQ;intro a H;refine dw ?_;refine (fJ H results268 (.cons (bB H rfl) (.cons (bB H rfl) (.cons (bB H rfl) .nil))) ?_).1
   exact mX
  intro bS a H
  try have jP:=dF bS
  refine kP H (SR fun _ rT=>Rc rfl (aj rT rfl (Cd rfl ?_ ?_))) <;> clear H rT
  ·intro jw a H
   try have p26:=dT jw
   refine kP H (SC (bG kZ rfl (SR fun _ vD=>Rm rfl (Rm rfl (Rm rfl (Ra rfl (Ra rfl (aj vD rfl ?_))))))));clear H kZ vD;intro a H;refine dw ?_;refine (fJ H results268 (.cons (bB H rfl) (.cons (bB H rfl) (.cons (bB H rfl) .nil))) ?_).1
   exact mX
  intro jw a H
  try have p26:=dF jw
  refine kP H (SR fun _ sN=>Rc rfl (aj sN rfl (Cd rfl ?_ ?_))) <;> clear H sN
  ·intro gD a H
   try have p28:=dT gD
   refine kP H (SC (bG kZ rfl (SR fun _ xB=>Rm rfl (Rm rfl (Rm rfl (Ra rfl (Ra rfl (aj xB rfl ?_))))))));clear H kZ xB;intro a H;refine dw ?_;refine (fJ H results268 (.cons (bB H rfl) (.cons (bB H rfl) (.cons (bB H rfl) .nil))) ?_).1
   exact mX
  intro gD a H
  try have p28:=dF gD
  refine kP H (Kc kZ (SR fun _ BH=>Rm rfl (Rm rfl (Rm rfl (Ra rfl (Ra rfl (aj BH rfl ?_)))))));clear H kZ BH;intro a H;refine dw ?_;refine (fJ H results268 (.cons (bB H rfl) (.cons (bB H rfl) (.cons (bB H rfl) .nil))) ?_).1
  exact mX
 intro h8 a H
 try have p8:=dF h8
 refine kP H (SR fun _ BI=>Rm rfl (Rc rfl (aj BI rfl (Cd rfl ?_ ?_)))) <;> clear H BI
 ·intro jN a H
  try have tF:=dT jN
  refine kP H (SC (bG K3 rfl (SQ fun _ qE=>SR fun _ Dg=>Rm rfl (Kz Dg (SB (SR fun _ BJ=>Rc rfl (aj BJ rfl (Cd rfl ?_ ?_)))))))) <;> clear H K3 Dg BJ
  ·intro h22 a H
   try have oW:=dT h22
   refine kP H (SC (bG qE rfl (SR fun _ F3=>Rm rfl (Rm rfl (Rm rfl (Ra rfl (Ra rfl (aj F3 rfl ?_))))))));clear H qE F3;intro a H;refine dw ?_;refine (fJ H results268 (.cons (bB H rfl) (.cons (bB H rfl) (.cons (bB H rfl) .nil))) ?_).1
   exact mX
  intro h22 a H
  try have oW:=dF h22
  refine kP H (SR fun _ Ez=>Rc rfl (aj Ez rfl (Cd rfl ?_ ?_))) <;> clear H Ez
  ·intro bS a H
   try have jP:=dT bS
   refine kP H (SC (bG qE rfl (SR fun _ F4=>Rm rfl (Rm rfl (Rm rfl (Ra rfl (Ra rfl (aj F4 rfl ?_))))))));clear H qE F4;intro a H;refine dw ?_;refine (fJ H results268 (.cons (bB H rfl) (.cons (bB H rfl) (.cons (bB H rfl) .nil))) ?_).1
   exact mX
  intro bS a H
  try have jP:=dF bS
  refine kP H (SR fun _ EA=>Rc rfl (aj EA rfl (Cd rfl ?_ ?_))) <;> clear H EA
  ·intro jw a H
   try have p26:=dT jw
   refine kP H (SC (bG qE rfl (SR fun _ LC=>Rm rfl (Rm rfl (Rm rfl (Ra rfl (Ra rfl (aj LC rfl ?_))))))));clear H qE LC;intro a H;refine dw ?_;refine (fJ H results268 (.cons (bB H rfl) (.cons (bB H rfl) (.cons (bB H rfl) .nil))) ?_).1
   exact mX
  intro jw a H
  try have p26:=dF jw
  refine kP H (SR fun _ OU=>Rc rfl (aj OU rfl (Cd rfl ?_ ?_))) <;> clear H OU
  ·intro gD a H
   try have p28:=dT gD
   refine kP H (SC (bG qE rfl (SR fun _ OV=>Rm rfl (Rm rfl (Rm rfl (Ra rfl (Ra rfl (aj OV rfl ?_))))))));clear H qE OV;intro a H;refine dw ?_;refine (fJ H results268 (.cons (bB H rfl) (.cons (bB H rfl) (.cons (bB H rfl) .nil))) ?_).1
   exact mX
  intro gD a H
  try have p28:=dF gD
  refine kP H (Kc qE (SR fun _ ZF=>Rm rfl (Rm rfl (Rm rfl (Ra rfl (Ra rfl (aj ZF rfl ?_)))))));clear H qE ZF;intro a H;refine dw ?_;refine (fJ H results268 (.cons (bB H rfl) (.cons (bB H rfl) (.cons (bB H rfl) .nil))) ?_).1
  exact mX
 intro jN a H
 try have tF:=dF jN
 refine kP H (SR fun _ ZG=>Rm rfl (Rc rfl (aj ZG rfl (Cd rfl ?_ ?_)))) <;> clear H ZG
 ·intro h18 a H
  try have tH:=dT h18
  refine kP H (SC (bG K3 rfl (SQ fun _ BK=>SR fun _ ZH=>Rm rfl (Kz ZH (SB (SR fun _ ZI=>Rc rfl (aj ZI rfl (Cd rfl ?_ ?_)))))))) <;> clear H K3 ZH ZI
  ·intro h22 a H
   try have oW:=dT h22
   refine kP H (SC (bG BK rfl (SR fun _ ZJ=>Rm rfl (Rm rfl (Rm rfl (Ra rfl (Ra rfl (aj ZJ rfl ?_))))))));clear H BK ZJ;intro a H;refine dw ?_;refine (fJ H results268 (.cons (bB H rfl) (.cons (bB H rfl) (.cons (bB H rfl) .nil))) ?_).1
   exact mX
  intro h22 a H
  try have oW:=dF h22
  refine kP H (SR fun _ ZK=>Rc rfl (aj ZK rfl (Cd rfl ?_ ?_))) <;> clear H ZK
  ·intro bS a H
   try have jP:=dT bS
   refine kP H (SC (bG BK rfl (SR fun _ ZL=>Rm rfl (Rm rfl (Rm rfl (Ra rfl (Ra rfl (aj ZL rfl ?_))))))));clear H BK ZL;intro a H;refine dw ?_;refine (fJ H results268 (.cons (bB H rfl) (.cons (bB H rfl) (.cons (bB H rfl) .nil))) ?_).1
   exact mX
  intro bS a H
  try have jP:=dF bS
  refine kP H (SR fun _ ZM=>Rc rfl (aj ZM rfl (Cd rfl ?_ ?_))) <;> clear H ZM
  ·intro jw a H
   try have p26:=dT jw
   refine kP H (SC (bG BK rfl (SR fun _ ZN=>Rm rfl (Rm rfl (Rm rfl (Ra rfl (Ra rfl (aj ZN rfl ?_))))))));clear H BK ZN;intro a H;refine dw ?_;refine (fJ H results268 (.cons (bB H rfl) (.cons (bB H rfl) (.cons (bB H rfl) .nil))) ?_).1
   exact mX
  intro jw a H
  try have p26:=dF jw
  refine kP H (SR fun _ ZO=>Rc rfl (aj ZO rfl (Cd rfl ?_ ?_))) <;> clear H ZO
  ·intro gD a H
   try have p28:=dT gD
   refine kP H (SC (bG BK rfl (SR fun _ ZP=>Rm rfl (Rm rfl (Rm rfl (Ra rfl (Ra rfl (aj ZP rfl ?_))))))));clear H BK ZP;intro a H;refine dw ?_;refine (fJ H results268 (.cons (bB H rfl) (.cons (bB H rfl) (.cons (bB H rfl) .nil))) ?_).1
   exact mX
  intro gD a H
  try have p28:=dF gD
  refine kP H (Kc BK (SR fun _ ZQ=>Rm rfl (Rm rfl (Rm rfl (Ra rfl (Ra rfl (aj ZQ rfl ?_)))))));clear H BK ZQ;intro a H;refine dw ?_;refine (fJ H results268 (.cons (bB H rfl) (.cons (bB H rfl) (.cons (bB H rfl) .nil))) ?_).1
  exact mX
 intro h18 a H
 try have tH:=dF h18
 refine kP H (SC (bG K3 rfl (SQ fun _ BL=>SR fun _ ZR=>Rm rfl (Kz ZR (SB (SR fun _ ZT=>Rc rfl (aj ZT rfl (Cd rfl ?_ ?_)))))))) <;> clear H K3 ZR ZT
 ·intro h22 a H
  try have oW:=dT h22
  refine kP H (SC (bG BL rfl (SR fun _ ZU=>Rm rfl (Rm rfl (Rm rfl (Ra rfl (Ra rfl (aj ZU rfl ?_))))))));clear H BL ZU;intro a H;refine dw ?_;refine (fJ H results268 (.cons (bB H rfl) (.cons (bB H rfl) (.cons (bB H rfl) .nil))) ?_).1
  exact mX
 intro h22 a H
 try have oW:=dF h22
 refine kP H (SR fun _ ZV=>Rc rfl (aj ZV rfl (Cd rfl ?_ ?_))) <;> clear H ZV
 ·intro bS a H
  try have jP:=dT bS
  refine kP H (SC (bG BL rfl (SR fun _ ZW=>Rm rfl (Rm rfl (Rm rfl (Ra rfl (Ra rfl (aj ZW rfl ?_))))))));clear H BL ZW;intro a H;refine dw ?_;refine (fJ H results268 (.cons (bB H rfl) (.cons (bB H rfl) (.cons (bB H rfl) .nil))) ?_).1
  exact mX
 intro bS a H
 try have jP:=dF bS
 refine kP H (SR fun _ ZX=>Rc rfl (aj ZX rfl (Cd rfl ?_ ?_))) <;> clear H ZX
 ·intro jw a H
  try have p26:=dT jw
  refine kP H (SC (bG BL rfl (SR fun _ ZY=>Rm rfl (Rm rfl (Rm rfl (Ra rfl (Ra rfl (aj ZY rfl ?_))))))));clear H BL ZY;intro a H;refine dw ?_;refine (fJ H results268 (.cons (bB H rfl) (.cons (bB H rfl) (.cons (bB H rfl) .nil))) ?_).1
  exact mX
 intro jw a H
 try have p26:=dF jw
 refine kP H (SR fun _ Z4=>Rc rfl (aj Z4 rfl (Cd rfl ?_ ?_))) <;> clear H Z4
 ·intro gD a H
  try have p28:=dT gD
  refine kP H (SC (bG BL rfl (SR fun _ Z5=>Rm rfl (Rm rfl (Rm rfl (Ra rfl (Ra rfl (aj Z5 rfl ?_))))))));clear H BL Z5;intro a H;refine dw ?_;refine (fJ H results268 (.cons (bB H rfl) (.cons (bB H rfl) (.cons (bB H rfl) .nil))) ?_).1
  exact mX
 intro gD a H
 try have p28:=dF gD
 refine kP H (Kc BL (SR fun _ Z6=>Rm rfl (Rm rfl (Rm rfl (Ra rfl (Ra rfl (aj Z6 rfl ?_)))))));clear H BL Z6;intro a H;refine dw ?_;refine (fJ H results268 (.cons (bB H rfl) (.cons (bB H rfl) (.cons (bB H rfl) .nil))) ?_).1
 exact mX
def ig (s:ByteArray) (i:Nat):Int:=if h:i < s.size then (s[i].toNat:Int) else 0
theorem mY {s:ByteArray} {i:Nat} (h:i < s.size):ig s i=(s[i].toNat:Int):=by simp [ig,h]
def qZ (s:ByteArray) (at_ n:Nat):(fuel k:Nat)->(low high p:Int)->Int × Nat × Bool
 | 0,k,_,_,p=>(p,k,true)
 | f+1,k,low,high,p =>
  if n<=k then (p,k,true)
  else if s.size<=at_+k∨ig s (at_+k) < low∨high < ig s (at_+k) then (0,k,false)
  else qZ s at_ n f (k+1) 128 191 (xI .or .i64 (IntKind.i64.wrap (p*2 ^ 6)) (xI .and .i64 (ig s (at_+k)) 63))
def mF (s:ByteArray) (at_:Nat):Int × Nat × Bool :=
 let b:=ig s at_
 let t:=yx b
 if t.2.2=0 then (0,0,false) else if t.2.2=1 then (b,1,true)
 else qZ s at_ t.2.2.toNat 4 1 t.1 t.2.1 (xI .and .i64 b ((127:Int).fdiv (2 ^ t.2.2.toNat)))
theorem Y0 (n:UInt8):IntKind.i64.wrap (n.toNat:Int)=(n.toNat:Int):=Im (by omega) (by have:=n.toNat_lt;omega)
theorem Pg {p:Prop} (h:p:=by
 exact H.rt ⟨by rw [hfin];first|rw [nE]|rw [dL],rfl⟩):p:=h
set_option maxHeartbeats 1000000 in
theorem akB (G:GH) (w0:World) (hG:Hold G w0) (s:ByteArray) (i:Nat) (hi:i < s.size) (hs:s.size < 4611686018427387904) :
  Calls prog 249 #[.string s,.int .i64 i] w0 (bE w0 G fun v G'=>v=.tuple #[.int .i64 (mF s i).1,.int .i64 (mF s i).2.1,.bool (mF s i).2.2]∧G=G'):=by
 have hb:=mY hi;obtain ⟨n,hn⟩:∃ n:Nat,(yx (ig s i)).2.2=(n:Int):=⟨(yx (ig s i)).2.2.toNat,by have:=YV (ig s i);omega⟩
 have hn4:n<=4:=by have:=YV (ig s i);omega
 refine eN [(0,_),(1,_)] func249 rfl ntmps249 rfl rfl hG ?_;intro a H;refine kP H (SR fun _ K1=>Ra rfl (Ra rfl (aj K1 rfl (SR fun _ K2=>Rm rfl (Rm rfl ?_)))));clear H K1;intro a H;refine qK _ iT H wn rfl rfl rfl (by first|assumption|omega) rfl ?_;clear H;intro a H;refine kH H (Ra rfl ?_);clear H;intro a H;rw [<- hb] at H;refine K2 _ _ ?_;clear K2;refine kP H (SR fun _ K3=>Rm rfl ?_);clear H;intro a H;refine s_call amS H wn rfl (axi _ _ H.ro _) rfl ?_;clear H;rintro v16 _ a w ⟨rfl,rfl⟩ - H;refine kH H (Rm rfl ?_);clear H;intro a H;(iterate 3 refine mh H wn rfl rfl rfl ?_;clear H;intro a H);refine kH H (Ra rfl (Ra rfl (aj K3 rfl (SQ fun _ K4=>SR fun _ K5=>Rm rfl (Kz K5 (SB (SR fun _ K6=>Rc rfl (aj K6 rfl (Cd rfl ?_ ?_))))))))) <;> clear H K3 K5 K6
 ·intro h21 a H
  try have Ec:=dT h21
  refine kP H (SR fun _ K7=>Ra rfl (Ra rfl (aj K7 rfl ?_)));clear H K7;intro a H;refine dw ?_;skip;refine (fJ H results249 (.cons (bB H rfl) (.cons (bB H rfl) (.cons (bB H rfl) .nil))) ?_).1;exact H.rt ⟨by simp [mF,Ec],rfl⟩
 intro h21 a H
 try have Ec:=dF h21
 refine kP H (SR fun _ K8=>Rc rfl (aj K8 rfl (Cd rfl ?_ ?_))) <;> clear H K8
 ·intro h23 a H
  try have Bp:=dT h23
  refine kP H (SR fun _ K9=>Rm rfl ?_);clear H;intro a H;refine CP (ig s i) mJ Oi H wn rfl (by rw [hb];exact Y0 _) rfl ?_;clear H;intro a H;refine kH H (Ra rfl (Ra rfl (aj K9 rfl ?_)));clear H K9;intro a H;refine dw ?_;skip;refine (fJ H results249 (.cons (bB H rfl) (.cons (bB H rfl) (.cons (bB H rfl) .nil))) ?_).1;exact H.rt ⟨by simp [mF,Ec,Bp],rfl⟩
 intro h23 a H
 try have Bp:=dF h23
 refine kP H (Kc K4 (SR fun _ aS=>Rm rfl ?_));clear H K4;intro a H;refine CP (ig s i) mJ Oi H wn rfl (by rw [hb];exact Y0 _) rfl ?_;clear H;intro a H;refine kH H (Rm rfl ?_);clear H;intro a H;refine Sl n H wn rfl rfl (by rw [hn]) (by show n<=64;omega) rfl ?_;clear H;intro a H;refine Sc rfl H wn rfl rfl rfl ?_;clear H;intro a H;refine kH H (aj aS rfl (SQ fun _ bH=>SR fun _ bT=>aj bT rfl (SB ?_)));clear H aS bT;intro a H;skip;refine fF (ι:=Nat × Int × Int × Int) (Tc:=[(0,_),(1,_),(10,_)]) (Lc:=[]) (fun gh=>[(4,.int .i64 gh.2.2.2),(5,.int .i64 (gh.1:Int)),(8,.int .u8 gh.2.1),(9,.int .u8 gh.2.2.1)]) (fun gh=>[]) (fun gh=>G) (fun gh=>gh.1<=4∧mF s i=qZ s i n (5 - gh.1) gh.1 gh.2.1 gh.2.2.1 gh.2.2.2) (fun gh=>5 - gh.1) ((1,_,_,_)) (by exact H.sub ⟨rfl,rfl,rfl,rfl,rfl,rfl,rfl,ay⟩) ?_ ?_
 ·refine ⟨by omega,?_⟩;simp only [mF,hn];rw [dL,dL];rfl
 clear H;rintro ⟨k,low,high,p⟩ a w hI H;dsimp only at hI H;obtain ⟨hk,hdec⟩:=hI;dsimp only [lca,bM] at H;refine kP H (SQ fun _ cK=>SR fun _ dB=>Rm rfl (Rm rfl (Rc rfl (Kz dB (Cd rfl ?_ ?_))))) <;> clear H dB
 ·intro fu a H
  try have p34:=dT fu
  refine kP H (Kc cK (SQ fun _ eU=>SB (SQ fun _ eX=>SR fun _ eG=>Rm rfl (Rm rfl (Rd rfl (Rm rfl (Rv iT rfl (Rc rfl (Rm rfl (Sp 43 rfl ?_ ?_)))))))))) <;> clear H cK
  ·intro h43 a H
   try have p43:=dT h43
   refine kH H (aM h43 rfl (aJ h43 rfl (aJ h43 rfl (Pt h43 rfl (Rm rfl (aM rfl rfl (aJ rfl rfl (aJ rfl rfl (Pt rfl rfl (Kz eG (Ct rfl rfl (SR fun _ fC=>Rm rfl (Ra rfl (Ra rfl (aj fC rfl ?_)))))))))))))));clear H eG fC;intro a H;refine dw ?_
   have hfin:mF s i=(if n<=k then (p,k,true) else (0,k,false)):=by
    rw [hdec];have e:5 - k=(4 - k)+1:=by omega
    rw [e,qZ]
    by_cases hk2:n<=k
    ·rw [aD hk2,aD hk2]
    rw [av hk2,av hk2,aD (by first|omega|(rw [mY (by omega)];omega))]
   refine (fJ H results249 (.cons (bB H rfl) (.cons (bB H rfl) (.cons (bB H rfl) .nil))) ?_).1;exact Pg
  intro h43 a H
  try have p43:=dF h43
  refine kH H (YM h43 rfl (YM h43 rfl (YM h43 rfl ?_)));clear H;intro a H;refine NV _ H (wg H rfl rfl h43) rfl rfl rfl (by omega) (by omega) rfl ?_;clear H;intro a H;refine qK _ iT H (wg H rfl rfl h43) rfl rfl rfl (by first|assumption|omega) rfl ?_;clear H;intro a H;refine kH H (YM h43 rfl (YC h43 rfl (Pf h43 rfl (Rm rfl (Sp 52 rfl ?_ ?_))))) <;> clear H
  ·intro qw a H
   try have p52:=dT qw
   refine kH H (aM qw rfl (aJ qw rfl (aJ qw rfl (Pt qw rfl (Kz eG (Ct rfl rfl (SR fun _ gX=>Rm rfl (Ra rfl (Ra rfl (aj gX rfl ?_))))))))));clear H eG gX;intro a H;refine dw ?_
   have hfin:mF s i=(if n<=k then (p,k,true) else (0,k,false)):=by
    rw [hdec];have e:5 - k=(4 - k)+1:=by omega
    rw [e,qZ]
    by_cases hk2:n<=k
    ·rw [aD hk2,aD hk2]
    rw [av hk2,av hk2,aD (by first|omega|(rw [mY (by omega)];omega))]
   refine (fJ H results249 (.cons (bB H rfl) (.cons (bB H rfl) (.cons (bB H rfl) .nil))) ?_).1;exact Pg
  intro qw a H
  try have p52:=dF qw
  refine kH H (YM qw rfl (YM qw rfl (YM qw rfl ?_)));clear H;intro a H;refine NV _ H (wg H rfl rfl qw) rfl rfl rfl (by omega) (by omega) rfl ?_;clear H;intro a H;refine qK _ iT H (wg H rfl rfl qw) rfl rfl rfl (by first|assumption|omega) rfl ?_;clear H;intro a H;refine kH H (YM qw rfl (YC qw rfl (Pf qw rfl (Kz eG (Cd rfl ?_ ?_))))) <;> clear H eG
  ·intro jT a H
   try have p60:=dT jT
   refine kP H (SR fun _ fM=>Rm rfl (Ra rfl (Ra rfl (aj fM rfl ?_))));clear H fM;intro a H;refine dw ?_
   have hfin:mF s i=(if n<=k then (p,k,true) else (0,k,false)):=by
    rw [hdec];have e:5 - k=(4 - k)+1:=by omega
    rw [e,qZ]
    by_cases hk2:n<=k
    ·rw [aD hk2,aD hk2]
    rw [av hk2,av hk2,aD (by first|omega|(rw [mY (by omega)];omega))]
   refine (fJ H results249 (.cons (bB H rfl) (.cons (bB H rfl) (.cons (bB H rfl) .nil))) ?_).1;exact Pg
  intro jT a H
  try have p60:=dF jT
  refine kP H (Kc eX (SR fun _ iI=>Rm rfl ?_));clear H eX;intro a H;refine avR _ H wn rfl rfl rfl (by decide) rfl ?_;clear H;intro a H;refine kH H (Rm rfl (Rm rfl (Rm rfl (Rd rfl ?_))));clear H;intro a H;refine qK _ iT H wn rfl rfl rfl (by first|assumption|omega) rfl ?_;clear H;intro a H;refine CP (ig s (i+k)) mJ Oi H wn rfl (by rw [mY (by omega)];exact Y0 _) rfl ?_;clear H;intro a H;(iterate 2 refine Sc rfl H wn rfl rfl rfl ?_;clear H;intro a H);refine kH H (aj iI rfl (SC (Ra rfl (bG eU rfl (SC (Rm rfl (Rd rfl (Ra rfl ?_))))))));clear H iI eU;intro a H;refine aB ?_;refine dJ ((k+1,128,191,xI .or .i64 (IntKind.i64.wrap (p*2 ^ 6)) (xI .and .i64 (ig s (i+k)) 63))) (by exact H.sub ⟨rfl,rfl,rfl,rfl,rfl,rfl,rfl,ay⟩) ?_
  (try dsimp only);refine ⟨by omega,?_⟩
  have e:5 - k=(5 - (k+1))+1:=by omega
  rw [hdec,e,qZ,dL,mY (by omega),dL]
 intro fu a H
 try have p34:=dF fu
 refine eu ?_;refine bH _ _ ?_;clear bH;refine kP H (SR fun _ jH=>Rm rfl (Rm rfl (Ra rfl (Ra rfl (aj jH rfl ?_)))));clear H jH;intro a H;refine dw ?_
 have hfin:mF s i=(if n<=k then (p,k,true) else (0,k,false)):=by
  rw [hdec];have e:5 - k=(4 - k)+1:=by omega
  rw [e,qZ]
  by_cases hk2:n<=k
  ·rw [aD hk2,aD hk2]
  rw [av hk2,av hk2,aD (by first|omega|(rw [mY (by omega)];omega))]
 refine (fJ H results249 (.cons (bB H rfl) (.cons (bB H rfl) (.cons (bB H rfl) .nil))) ?_).1;exact Pg
theorem abD (s:ByteArray) (at_ n:Nat):∀ (f k:Nat) (low high p:Int),n<=k+f->k<=n->k<=(qZ s at_ n f k low high p).2.1∧(qZ s at_ n f k low high p).2.1<=n∧((qZ s at_ n f k low high p).2.2=true->at_+k<=s.size->at_+(qZ s at_ n f k low high p).2.1<=s.size)
 | 0,k,low,high,p,h1,h2=>by simp only [qZ];omega
 | f+1,k,low,high,p,h1,h2=>by
  unfold qZ
  split
  ·simp only [];omega
  split
  ·simp only [];omega
  have ih:=abD s at_ n f (k+1) 128 191 (xI .or .i64 (IntKind.i64.wrap (p*2 ^ 6)) (xI .and .i64 (ig s (at_+k)) 63)) (by omega) (by omega);refine ⟨by have:=ih.1;omega,ih.2.1,fun h3 h4=>ih.2.2 h3 (by omega)⟩
theorem PY (s:ByteArray) (i:Nat) (hi:i < s.size):(mF s i).2.1<=4∧((mF s i).2.2=true->1<=(mF s i).2.1∧i+(mF s i).2.1<=s.size):=by
 have ht:=YV (ig s i)
 unfold mF
 simp only []
 split
 ·simp
 split
 ·simp;omega
 have:=abD s i (yx (ig s i)).2.2.toNat 4 1 (yx (ig s i)).1 (yx (ig s i)).2.1 (xI .and .i64 (ig s i) ((127:Int).fdiv (2 ^ (yx (ig s i)).2.2.toNat))) (by omega) (by omega);refine ⟨by omega,fun h=>⟨by omega,this.2.2 h (by omega)⟩⟩
def uU (s:ByteArray) (i:Nat):Int :=
 if h:i < s.size then (if h2:(mF s i).2.2=true then uU s (i+(mF s i).2.1) else i) else -1
 termination_by s.size - i
 decreasing_by have:=(PY s i h).2 h2;omega
theorem aoH (G:GH) (w0:World) (hG:Hold G w0) (s:ByteArray) (hs:s.size < 4611686018427387904) :
  Calls prog 225 #[.string s] w0 (bE w0 G fun v G'=>v=.int .i64 (uU s 0)∧G=G'):=by
 refine eN [(0,_)] func225 rfl ntmps225 rfl rfl hG ?_;intro a H;refine kP H (SR fun _ K1=>aj K1 rfl (SQ fun _ K2=>SR fun _ K3=>aj K3 rfl (SB ?_)));clear H K1 K3;intro a H;skip;refine fF (ι:=Nat) (Tc:=[(0,_)]) (Lc:=[]) (fun gh=>[(3,.int .i64 (gh:Int))]) (fun gh=>[]) (fun gh=>G) (fun gh=>gh<=s.size∧uU s 0=uU s gh) (fun gh=>s.size - gh) (0) (by exact H.sub ⟨rfl,rfl,ay⟩) ?_ ?_
 ·exact ⟨by omega,rfl⟩
 clear H;intro i a w hI H;obtain ⟨hk,hf⟩:=hI;dsimp only [lca,bM] at H;refine kP H (SQ fun _ K4=>SR fun _ K5=>Rm rfl (Rm rfl (Rv iT rfl (Rc rfl (Kz K5 (Cd rfl ?_ ?_)))))) <;> clear H K5
 ·intro h10 a H
  try have jd:=dT h10
  refine kP H (Kc K4 (SB (SR fun _ K6=>Rm rfl (Rm rfl ?_))));clear H K4;intro a H;refine s_call amF H wn rfl (akB _ _ H.ro s i (by omega) hs) rfl ?_;clear H;rintro v14 _ a w ⟨rfl,rfl⟩ - H;have hd:=PY s i (by omega);refine kH H (Rm rfl ?_);clear H;intro a H;(iterate 3 refine mh H wn rfl rfl rfl ?_;clear H;intro a H);refine kH H (Ra rfl (Ra rfl (aj K6 rfl (SQ fun _ K7=>SR fun _ K8=>Rm rfl (Rn rfl (Kz K8 (Cd rfl ?_ ?_))))))) <;> clear H K6 K8
  ·intro h19 a H
   try have tJ:=dT h19
   exact kP H (SR fun _ K9=>Rm rfl (aj K9 rfl (LR results225 rfl fun H=>H.rt ⟨by rw [hf,uU,dif_pos (by omega),dif_neg (by simpa using h19)],rfl⟩)))
  intro h19 a H
  try have tJ:=dF h19
  refine kP H (Kc K7 (SC (Rm rfl (Rm rfl (Rd rfl (Ra rfl ?_))))));clear H K7;intro a H;refine aB ?_;refine XG ((i+(mF s i).2.1)) (by exact H.sub ⟨rfl,rfl,ay⟩) ?_ ?_
  ·have h1:(mF s i).2.2=true:=by simpa using h19
   have h2:=hd.2 h1;refine ⟨by omega,?_⟩;rw [hf,uU,dif_pos (by omega),dif_pos h1]
  have h1:(mF s i).2.2=true:=by simpa using h19
  have h2:=hd.2 h1
  omega
 intro h10 a H
 try have jd:=dF h10
 refine eu ?_;refine K2 _ _ ?_;clear K2;exact kP H (SR fun _ aS=>aj aS rfl (LR results225 rfl fun H=>H.rt ⟨by rw [hf,uU,dif_neg (by omega)],rfl⟩))
def sJ (s:ByteArray):Bool:=decide (uU s 0 < 0)
theorem Ot (G:GH) (w0:World) (hG:Hold G w0) (s:ByteArray) (hs:s.size < 4611686018427387904) :
  Calls prog 193 #[.string s] w0 (bE w0 G fun v G'=>v=.bool (sJ s)∧G=G'):=by
 refine eN [(0,_)] func193 rfl ntmps193 rfl rfl hG ?_;intro a H;refine kP H (SR fun _ K1=>aj K1 rfl (SR fun _ K2=>Rm rfl ?_));clear H K1;intro a H;refine s_call amt H wn rfl (aoH _ _ H.ro s hs) rfl ?_;clear H;rintro v4 _ a w ⟨rfl,rfl⟩ - H;exact kH H (Rc rfl (aj K2 rfl (LR results193 rfl fun H=>H.rt ⟨rfl,rfl⟩)))
def qX (s:ByteArray) (i:Nat):Nat :=
 if i < s.size then (if xI .and .u8 (ig s i) 192=128 then 0 else 1)+qX s (i+1) else 0
 termination_by s.size - i
theorem abn (s:ByteArray):∀ (n i:Nat),s.size - i=n->qX s i<=n
 | 0,i,h=>by rw [qX,dL];exact eP _
 | n+1,i,h=>by
  have ih:=abn s n (i+1) (by omega);rw [qX,nE]
  split <;> omega
def uO (s:ByteArray):Nat:=if sJ s then qX s 0 else 0
def Le (s:ByteArray):Int:=if sJ s then 0 else 12
theorem abo (s:ByteArray):uO s<=s.size:=by unfold uO;have:=abn s s.size 0 (by omega);split <;> omega
theorem akx (G:GH) (w0:World) (hG:Hold G w0) (s:ByteArray) (hs:s.size < 4611686018427387904) :
  Calls prog 197 #[.string s] w0 (bE w0 G fun v G'=>v=.tuple #[vi (uO s),vi (Le s)]∧G=G'):=by
 refine eN [(0,_)] func197 rfl ntmps197 rfl rfl hG ?_;intro a H;refine kP H (SR fun _ K1=>Ra rfl (aj K1 rfl (SQ fun _ K2=>SR fun _ K3=>Rm rfl ?_)));clear H K1;intro a H;refine s_call Mv H wn rfl (Ot _ _ H.ro s hs) rfl ?_;clear H;rintro v6 _ a w ⟨rfl,rfl⟩ - H;refine kH H (Rn rfl (Kz K3 (Cd rfl ?_ ?_))) <;> clear H K3
 ·intro h7 a H
  refine kP H (SR fun _ K4=>Ra rfl (aj K4 rfl ?_));clear H K4;intro a H;refine dw ?_;refine (fJ H results197 (.cons (bB H rfl) (.cons (bB H rfl) .nil)) ?_).1;exact H.rt ⟨by simp [uO,Le,show sJ s=false by simpa using h7],rfl⟩
 intro h7 a H
 try have p7:=dF h7
 refine kP H (Kc K2 (SQ fun _ K5=>SR fun _ K6=>Rm rfl (Rv iT rfl (Rm rfl (Kz K6 (SB ?_))))));clear H K2 K6;intro a H;skip;refine fF (ι:=Nat × Nat) (Tc:=[(0,_),(9,_)]) (Lc:=[]) (fun gh=>[(2,vi gh.2),(10,vi gh.1)]) (fun gh=>[]) (fun gh=>G) (fun gh=>gh.1<=s.size∧gh.2<=gh.1∧gh.2+qX s gh.1=uO s) (fun gh=>s.size - gh.1) ((0,0)) (by exact H.sub ⟨rfl,rfl,rfl,rfl,ay⟩) ?_ ?_
 ·exact ⟨by omega,by omega,by simp [uO,show sJ s=true by simpa using h7]⟩
 clear H;rintro ⟨i,n⟩ a w hI H;dsimp only at hI H;obtain ⟨hk,hn,hf⟩:=hI;dsimp only [lca,bM] at H;refine kP H (SR fun _ K7=>Rc rfl (Kz K7 (SQ fun _ K8=>Cd rfl ?_ ?_))) <;> clear H K7
 ·intro h11 a H
  try have sF:=dT h11
  refine kP H (Kc K8 (SQ fun _ K9=>SB (SR fun _ aS=>Rm rfl (aj aS rfl (SR fun _ bH=>Rm rfl (Rm rfl ?_))))));clear H K8 aS;intro a H;refine qK _ iT H wn rfl rfl rfl (by first|assumption|omega) rfl ?_;clear H;intro a H;refine Sc rfl H wn rfl rfl rfl ?_;clear H;intro a H;refine kH H (Rc rfl (Kz bH (Cd rfl ?_ ?_))) <;> clear H bH
  ·intro cu a H
   try have lN:=dT cu
   refine kP H (SC (Rm rfl (Rd rfl (bG K9 rfl (SC (Rd rfl (Rm rfl ?_)))))));clear H K9;intro a H;refine aB ?_;refine dJ ((i+1,n+1)) (by exact H.sub ⟨rfl,rfl,rfl,rfl,ay⟩) ?_
   (try dsimp only);rw [<- mY (by omega)] at lN;rw [qX,nE,av lN] at hf;exact ⟨by omega,by omega,by omega⟩
  intro cu a H
  try have lN:=dF cu
  refine kP H (Kc K9 (SC (Rd rfl (Rm rfl ?_))));clear H K9;intro a H;refine aB ?_;refine dJ ((i+1,n)) (by exact H.sub ⟨rfl,rfl,rfl,rfl,ay⟩) ?_
  (try dsimp only);rw [<- mY (by omega),oK] at lN;rw [qX,nE,aD lN] at hf;exact ⟨by omega,by omega,by omega⟩
 intro h11 a H
 try have sF:=dF h11
 refine eu ?_;refine K5 _ _ ?_;clear K5;refine kP H (SR fun _ bT=>Rm rfl (Ra rfl (aj bT rfl ?_)));clear H bT;intro a H;refine dw ?_;refine (fJ H results197 (.cons (bB H rfl) (.cons (bB H rfl) .nil)) ?_).1;exact H.rt ⟨by rw [qX,dL,Aj] at hf;rw [hf];simp [Le,show sJ s=true by simpa using h7],rfl⟩
theorem hmx:prog.follows .mixedOrders=true:=by kernel_rfl
theorem lS:dX prog 68 0 0:=⟨by kernel_rfl⟩
theorem aG:Ty prog 3 1 8 [.int .i64 0] false:=⟨by kernel_rfl,by kernel_rfl⟩
theorem vP:dX prog 68 3 3:=⟨by kernel_rfl⟩
theorem iR:Ty prog 9 1 16 [.string ⟨#[]⟩] false:=⟨by kernel_rfl,by kernel_rfl⟩
theorem amd:aQ 197:=aR func197 rfl
theorem jo:prog.underlying 22=some (.slice 68):=by kernel_rfl
theorem gN:Ty prog 68 11 176 [.int .i64 0,.int .i64 0,.int .i64 0,.string ⟨#[]⟩,.slice none 0 0,.int .i64 0,.int .i64 0,.slice none 0 0,.slice none 0 0,.slice none 0 0,.slice none 0 0] true:=⟨by kernel_rfl,by kernel_rfl⟩
theorem gU:prog.underlying 23=some (.slice 187):=by kernel_rfl
theorem iw:Ty prog 187 2 16 [.int .i64 0,.int .i64 0] true:=⟨by kernel_rfl,by kernel_rfl⟩
theorem oJ:prog.underlying 24=some (.slice 159):=by kernel_rfl
theorem oI:Ty prog 159 2 16 [.int .i64 0,.int .i64 0] true:=⟨by kernel_rfl,by kernel_rfl⟩
theorem kW:prog.underlying 25=some (.slice 161):=by kernel_rfl
theorem jB:Ty prog 161 4 32 [.int .i64 0,.int .i64 0,.int .i64 0,.bool false] true:=⟨by kernel_rfl,by kernel_rfl⟩
theorem dW:Ty prog 29 5 88 [.slice none 0 0,.int .i64 0,.int .i64 0,.slice none 0 0,.slice none 0 0] true:=⟨by kernel_rfl,by kernel_rfl⟩
theorem yL:dX prog 29 0 0:=⟨by kernel_rfl⟩
theorem tK:Ty prog 23 1 24 [.slice none 0 0] false:=⟨by kernel_rfl,by kernel_rfl⟩
theorem P6:aQ 168:=aR func168 rfl
theorem qp:dX prog 29 1 1:=⟨by kernel_rfl⟩
theorem uj:dX prog 27 2 2:=⟨by kernel_rfl⟩
theorem uD:Ty prog 24 1 24 [.slice none 0 0] false:=⟨by kernel_rfl,by kernel_rfl⟩
theorem alJ:aQ 169:=aR func169 rfl
theorem Av:dX prog 27 3 3:=⟨by kernel_rfl⟩
theorem Bu:Ty prog 25 1 24 [.slice none 0 0] false:=⟨by kernel_rfl,by kernel_rfl⟩
theorem alK:aQ 170:=aR func170 rfl
theorem nM:prog.underlying 66=some (.slice 74):=by kernel_rfl
theorem jG:Ty prog 74 6 112 [.slice none 0 0,.int .i64 0,.int .i64 0,.slice none 0 0,.slice none 0 0,.slice none 0 0] true:=⟨by kernel_rfl,by kernel_rfl⟩
theorem qj:prog.underlying 72=some (.slice 76):=by kernel_rfl
theorem kE:Ty prog 76 7 120 [.int .i64 0,.slice none 0 0,.int .i64 0,.int .i64 0,.slice none 0 0,.slice none 0 0,.slice none 0 0] true:=⟨by kernel_rfl,by kernel_rfl⟩
theorem JW:dX prog 76 0 0:=⟨by kernel_rfl⟩
theorem He:dX prog 76 1 1:=⟨by kernel_rfl⟩
theorem GU:aQ 108:=aR func108 rfl
theorem EO:dX prog 76 2 6:=⟨by kernel_rfl⟩
theorem kV:Ty prog 22 1 24 [.slice none 0 0] false:=⟨by kernel_rfl,by kernel_rfl⟩
theorem Ve:aQ 80:=aR func80 rfl
theorem YP:qR prog 76 [(0,1),(1,5),(6,1)] [.int .i64 0,.slice none 0 0,.int .i64 0,.int .i64 0,.slice none 0 0,.slice none 0 0,.slice none 0 0]:=⟨by kernel_rfl,by kernel_rfl⟩
theorem GZ:dX prog 74 0 0:=⟨by kernel_rfl⟩
theorem yN:dX prog 74 1 5:=⟨by kernel_rfl⟩
theorem zm:Ty prog 72 1 24 [.slice none 0 0] false:=⟨by kernel_rfl,by kernel_rfl⟩
theorem acd:aQ 172:=aR func172 rfl
theorem YK:qR prog 74 [(0,5),(5,1)] [.slice none 0 0,.int .i64 0,.int .i64 0,.slice none 0 0,.slice none 0 0,.slice none 0 0]:=⟨by kernel_rfl,by kernel_rfl⟩
theorem wK:dX prog 68 4 4:=⟨by kernel_rfl⟩
theorem zK:dX prog 68 5 9:=⟨by kernel_rfl⟩
theorem um:dX prog 68 6 10:=⟨by kernel_rfl⟩
theorem uE:Ty prog 66 1 24 [.slice none 0 0] false:=⟨by kernel_rfl,by kernel_rfl⟩
theorem abV:aQ 110:=aR func110 rfl
theorem abY:aQ 140:=aR func140 rfl
theorem amf:aQ 203:=aR func203 rfl
theorem als:aQ 142:=aR func142 rfl
theorem alr:aQ 141:=aR func141 rfl
def jL (x:au):Nat:=if x.kind=1 then uO x.text else 1
def Om (x:au):Int:=if x.kind=1 then Le x.text else 0
def P5 (l:List au):Bool:=l.all fun x=>decide (Om x=0)
def IV:List au->Nat
 | []=>0
 | x :: l=>jL x+IV l
def Fw (l:List au):Int:=if P5 l then IV l else 0
def pq:List au->Nat
 | []=>0
 | x :: l=>x.text.size+1+pq l
theorem IW (l m:List au):pq (l++m)=pq l+pq m:=by
 induction l with
 | nil=>simp [pq]
 | cons x l ih=>simp [pq,ih];omega
theorem ahn (l:List au) (k:Nat):pq (l.take k)<=pq l:=by
 have:=IW (l.take k) (l.drop k);rw [List.take_append_drop] at this;omega
theorem JX {G:GH} {l:List au} {A:Option Addr} {k:Nat} (hk:k < l.length) (hg:∀ k r,(l.map au.dat)[k]?=some r->∃ b o cs,A=some ⟨b,o,none⟩∧cs.length=11∧(∀ j u,cs[j]?=some u->aI G b (o+k*11+j)=some u)∧bD G r cs) :
  ∃ b o pA pn pc dA dn dc yA yn yc fA fn fc rA rn rc,A=some ⟨b,o,none⟩∧(∀ j u,[vi l[k].kind,vi l[k].code,vi l[k].id,.string l[k].text,.slice pA pn pc,vi l[k].head.marks.ins,vi l[k].head.marks.move,.slice dA dn dc,.slice yA yn yc,.slice fA fn fc,.slice rA rn rc][j]?=some u->aI G b (o+k*11+j)=some u) ∧
   jq G l[k].head (.slice pA pn pc) (.slice dA dn dc) (.slice yA yn yc)∧ak G (.sl 11 (l[k].flow.map au.dat)) (.slice fA fn fc)∧ak G (.sl 6 (l[k].rows.map aU.dat)) (.slice rA rn rc):=by
 obtain ⟨b,o,cs,h1,h2,h3,h4⟩:=hg k l[k].dat (by simp [hk]);obtain ⟨pA,pn,pc,dA,dn,dc,yA,yn,yc,fA,fn,fc,rA,rn,rc,rfl,h5,h6,h7⟩:=h4.item;exact ⟨b,o,pA,pn,pc,dA,dn,dc,yA,yn,yc,fA,fn,fc,rA,rn,rc,h1,h3,h5,h6,h7⟩
theorem XE:∀ l:List au,l.length<=pq l
 | []=>eP _
 | x :: l=>by have:=XE l;simp only [lg,pq];omega
theorem ahm:∀ l:List au,pq l<=dx l
 | []=>eP _
 | x :: l=>by
  have:=ahm l;have h2:=Ac x
  simp only [pq,dx,fH,fB] at *;omega
theorem Uv (G:GH) (w0:World) (hG:Hold G w0) (rows:List (List Dat)) (A:Option Addr) (n c:Nat) (hv:ak G (.sl 2 rows) (.slice A n c)) (hz:rows.length<=4294967296) :
  Calls prog 168 #[.slice A n c] w0 (bE w0 G fun v G'=>ak G' (.sl 2 rows) v):=by
 obtain ⟨hn,hc1,hc2,hnil,hx⟩:=hv.cells;refine eN [(0,_)] func168 rfl ntmps168 rfl rfl hG ?_;intro a H;refine kP H (SR fun _ K1=>aj K1 rfl (SQ fun _ K2=>SR fun _ K3=>Rm rfl ?_));clear H K1;intro a H;refine CQ gU H wn rfl rfl ?_;clear H;intro a H;refine K3 _ _ ?_;clear K3;refine jr H rfl ?_ ?_
 ·intro h4
  exact kP H (SR fun _ K4=>aj K4 rfl (LR results168 rfl fun H=>H.rt (by rw [hnil (by simpa using h4)];exact ak.oQ rfl (by simp [maxLen]))))
 intro h4
 try have p4:=dF h4
 refine iG ?_;refine K2 _ _ ?_;clear K2;refine bR (fun _ K5=>?_)
 have hA:¬ A=none:=by intro e;rw [e] at h4;cases h4
 refine pV ?_;refine CO gU iw H wn rfl ?_;clear H;intro b5 a w hb5 H;refine kH H (Rm rfl ?_);clear H;intro a H
 by_cases hr0:rows=[]
 ·have hn0:n=0:=by rw [hn,hr0];rfl
  subst hn0;refine CK gU iw H wn rfl rfl (eP _) rfl ?_;clear H;intro a H;exact kH H (bG K5 rfl (LR results168 rfl fun H=>H.rt (by rw [hr0];exact ak.oQ rfl (by simp [maxLen]))))
 obtain ⟨b,o,xs,rfl,hxl,hxc,hx1,fQ⟩:=hx hr0;refine oZ (Li:=[]) (Lo:=[_]) (news:=xs) gU iw rfl rfl H wn rfl rfl dR.empty hxl (fun j u hj=>H.hp.aI (hxc j u hj)) hx1 (by omega) (by omega) rfl ?_;clear H;intro v7 Lo a w hrow H;obtain ⟨G',hm,hrep,H⟩:=H.qG hrow (rows:=rows) (by omega) (by simpa using fQ)
 try clear hG
 obtain ⟨G2,hG2⟩:∃ g,g=G':=⟨_,rfl⟩;subst hG2;exact kH H (bG K5 rfl (LR results168 rfl fun H=>H.rt hrep))
theorem ajW (G:GH) (w0:World) (hG:Hold G w0) (rows:List (List Dat)) (A:Option Addr) (n c:Nat) (hv:ak G (.sl 2 rows) (.slice A n c)) (hz:rows.length<=4294967296) :
  Calls prog 169 #[.slice A n c] w0 (bE w0 G fun v G'=>ak G' (.sl 2 rows) v):=by
 obtain ⟨hn,hc1,hc2,hnil,hx⟩:=hv.cells;refine eN [(0,_)] func169 rfl ntmps169 rfl rfl hG ?_;intro a H;refine kP H (SR fun _ K1=>aj K1 rfl (SQ fun _ K2=>SR fun _ K3=>Rm rfl ?_));clear H K1;intro a H;refine CQ oJ H wn rfl rfl ?_;clear H;intro a H;refine K3 _ _ ?_;clear K3;refine jr H rfl ?_ ?_
 ·intro h4
  exact kP H (SR fun _ K4=>aj K4 rfl (LR results169 rfl fun H=>H.rt (by rw [hnil (by simpa using h4)];exact ak.oQ rfl (by simp [maxLen]))))
 intro h4
 try have p4:=dF h4
 refine iG ?_;refine K2 _ _ ?_;clear K2;refine bR (fun _ K5=>?_)
 have hA:¬ A=none:=by intro e;rw [e] at h4;cases h4
 refine pV ?_;refine CO oJ oI H wn rfl ?_;clear H;intro b5 a w hb5 H;refine kH H (Rm rfl ?_);clear H;intro a H
 by_cases hr0:rows=[]
 ·have hn0:n=0:=by rw [hn,hr0];rfl
  subst hn0;refine CK oJ oI H wn rfl rfl (eP _) rfl ?_;clear H;intro a H;exact kH H (bG K5 rfl (LR results169 rfl fun H=>H.rt (by rw [hr0];exact ak.oQ rfl (by simp [maxLen]))))
 obtain ⟨b,o,xs,rfl,hxl,hxc,hx1,fQ⟩:=hx hr0;refine oZ (Li:=[]) (Lo:=[_]) (news:=xs) oJ oI rfl rfl H wn rfl rfl dR.empty hxl (fun j u hj=>H.hp.aI (hxc j u hj)) hx1 (by omega) (by omega) rfl ?_;clear H;intro v7 Lo a w hrow H;obtain ⟨G',hm,hrep,H⟩:=H.qG hrow (rows:=rows) (by omega) (by simpa using fQ)
 try clear hG
 obtain ⟨G2,hG2⟩:∃ g,g=G':=⟨_,rfl⟩;subst hG2;exact kH H (bG K5 rfl (LR results169 rfl fun H=>H.rt hrep))
theorem akc (G:GH) (w0:World) (hG:Hold G w0) (rows:List (List Dat)) (A:Option Addr) (n c:Nat) (hv:ak G (.sl 4 rows) (.slice A n c)) (hz:rows.length<=4294967296) :
  Calls prog 170 #[.slice A n c] w0 (bE w0 G fun v G'=>ak G' (.sl 4 rows) v):=by
 obtain ⟨hn,hc1,hc2,hnil,hx⟩:=hv.cells;refine eN [(0,_)] func170 rfl ntmps170 rfl rfl hG ?_;intro a H;refine kP H (SR fun _ K1=>aj K1 rfl (SQ fun _ K2=>SR fun _ K3=>Rm rfl ?_));clear H K1;intro a H;refine CQ kW H wn rfl rfl ?_;clear H;intro a H;refine K3 _ _ ?_;clear K3;refine jr H rfl ?_ ?_
 ·intro h4
  exact kP H (SR fun _ K4=>aj K4 rfl (LR results170 rfl fun H=>H.rt (by rw [hnil (by simpa using h4)];exact ak.oQ rfl (by simp [maxLen]))))
 intro h4
 try have p4:=dF h4
 refine iG ?_;refine K2 _ _ ?_;clear K2;refine bR (fun _ K5=>?_)
 have hA:¬ A=none:=by intro e;rw [e] at h4;cases h4
 refine pV ?_;refine CO kW jB H wn rfl ?_;clear H;intro b5 a w hb5 H;refine kH H (Rm rfl ?_);clear H;intro a H
 by_cases hr0:rows=[]
 ·have hn0:n=0:=by rw [hn,hr0];rfl
  subst hn0;refine CK kW jB H wn rfl rfl (eP _) rfl ?_;clear H;intro a H;exact kH H (bG K5 rfl (LR results170 rfl fun H=>H.rt (by rw [hr0];exact ak.oQ rfl (by simp [maxLen]))))
 obtain ⟨b,o,xs,rfl,hxl,hxc,hx1,fQ⟩:=hx hr0;refine oZ (Li:=[]) (Lo:=[_]) (news:=xs) kW jB rfl rfl H wn rfl rfl dR.empty hxl (fun j u hj=>H.hp.aI (hxc j u hj)) hx1 (by omega) (by omega) rfl ?_;clear H;intro v7 Lo a w hrow H;obtain ⟨G',hm,hrep,H⟩:=H.qG hrow (rows:=rows) (by omega) (by simpa using fQ)
 try clear hG
 obtain ⟨G2,hG2⟩:∃ g,g=G':=⟨_,rfl⟩;subst hG2;exact kH H (bG K5 rfl (LR results170 rfl fun H=>H.rt hrep))
theorem TR {p:Prop} (h:p:=by
 exact kH H (Rf qp rfl fun _ H=>fin H iJ rfl)):p:=h
theorem GK (G:GH) (w0:World) (hG:Hold G w0) (h:dN) (pA dA yA:Option Addr) (pn pc dn dc yn yc:Nat) (hv:jq G h (.slice pA pn pc) (.slice dA dn dc) (.slice yA yn yc)) (hz:mW h<=4294967296) :
  Calls prog 108 #[.agg #[.slice pA pn pc,vi h.marks.ins,vi h.marks.move,.slice dA dn dc,.slice yA yn yc]] w0 (bE w0 G fun v G'=>∃ p d l,v=.agg #[p,vi h.marks.ins,vi h.marks.move,d,l]∧jq G' h p d l):=by
 have he:=FR h;have h1:=qL (h.props.map aL.dat);have h2:=qL (h.marks.bJ.map gJ.dat);have h3:=qL (h.marks.layers.map bZ.dat);refine eN [(0,_)] func108 rfl ntmps108 rfl rfl hG ?_;intro a H;refine dz (fun _ K1=>?_);refine eB (cs:=[_,_,_,_,_]) H wn rfl rfl rfl ?_;clear H;intro b1 a w hb1 H;refine dP dW H wn rfl ?_;clear H;intro b2 a w hb2 H;refine K1 _ _ ?_;clear K1;refine kP H (SR fun _ K2=>bO yL tK 1 rfl rfl ?_);clear H;intro a H;refine s_call P6 H wn rfl (Uv _ _ H.ro _ _ _ _ hv.props (by omega)) rfl ?_;clear H;rintro v5 G5 a w sD Fa H;obtain ⟨A5,n5,c5,rfl⟩:=sD.form;refine kH H (Rf yL rfl ?_);clear H;intro a H;refine bK tK 1 (vs:=[_]) H wn rfl ?_;clear H;intro w H;refine K2 _ _ ?_;clear K2;refine bR (fun _ K3=>?_);obtain ⟨hvp,hvd,hvy⟩:=hv.mono Fa;clear hv
 have rG:BM (fun (dh:Nat) (v:ah) (G:GH)=>match dh with|0=>v=(aK b1 1)|1=>v=(aK b1 3)|2=>v=.slice dA dn dc|3=>ak G (.sl 2 (h.marks.bJ.map gJ.dat)) v|4=>v=(aK b1 1)|5=>v=(aK b1 4)|6=>v=.slice yA yn yc|7=>ak G (.sl 4 (h.marks.layers.map bZ.dat)) v|8=>v=(aK b1 1)|9=>v=(aK b1 3)|_=>True):=by intro dh v G G' hm h;(iterate 14 (rcases dh with _|dh;(first|exact h|exact ak.mono hm h)));exact trivial
 refine Am (hmx) [[],[0],[0,1],[0,1,2],[],[4],[4,5],ra 0 7,ra 0 7,(ra 0 7++[8]),ra 0 10,ra 0 11,ra 0 12,ra 0 13] (ra 10 4) (by kernel_rfl) (by kernel_rfl) _ rG H ?_ ?_
 ·clear H;refine aC ?_ ?_ ?_ ?_ (aC ?_ ?_ ?_ ?_ (aC ?_ ?_ (bU rfl) (bU rfl) (bP (bU rfl) (bP (bU rfl) dH))))
  ·refine dD [] rfl trivial (by kernel_rfl) rG rfl rfl ?_;intro aT a w G1 hG HT H fin;exact TR
  ·refine dD [(0,7,_)] rfl ⟨fun _ _ h=>h,ay⟩ (by kernel_rfl) rG rfl rfl ?_;intro aT a w G1 hG HT H fin;exact kH H (Rf uj rfl fun _ H=>fin H iJ rfl)
  ·refine dD [(1,8,_)] rfl ⟨fun _ _ h=>h,ay⟩ (by kernel_rfl) rG rfl rfl ?_;intro aT a w G1 hG HT H fin;exact kH H (Ro uD 1 rfl fun _ H=>fin H iJ rfl)
  ·refine dD [(2,9,_)] rfl ⟨fun _ _ h=>h,ay⟩ (by kernel_rfl) rG rfl rfl ?_;intro aT a w G1 hG HT H fin;refine s_call alJ H wn rfl (ajW _ _ H.ro _ _ _ _ (hvd.mono hG) (by omega)) rfl ?_;clear H;rintro v10 BD a w uX tq H;exact fin H tq (uX)
  ·refine dD [] rfl trivial (by kernel_rfl) rG rfl rfl ?_;intro aT a w G1 hG HT H fin;exact TR
  ·refine dD [(4,11,_)] rfl ⟨fun _ _ h=>h,ay⟩ (by kernel_rfl) rG rfl rfl ?_;intro aT a w G1 hG HT H fin;exact kH H (Rf Av rfl fun _ H=>fin H iJ rfl)
  ·refine dD [(5,12,_)] rfl ⟨fun _ _ h=>h,ay⟩ (by kernel_rfl) rG rfl rfl ?_;intro aT a w G1 hG HT H fin;exact kH H (Ro Bu 1 rfl fun _ H=>fin H iJ rfl)
  ·refine dD [(6,13,_)] rfl ⟨fun _ _ h=>h,ay⟩ (by kernel_rfl) rG rfl rfl ?_;intro aT a w G1 hG HT H fin;refine s_call alK H wn rfl (akc _ _ H.ro _ _ _ _ (hvy.mono hG) (by omega)) rfl ?_;clear H;rintro v14 Dc a w uw EX H;exact fin H EX (uw)
  ·refine dD [] rfl trivial (by kernel_rfl) rG rfl rfl ?_;intro aT a w G1 hG HT H fin;exact TR
  refine dD [(8,15,_)] rfl ⟨fun _ _ h=>h,ay⟩ (by kernel_rfl) rG rfl rfl ?_;intro aT a w G1 hG HT H fin;exact kH H (Rf uj rfl fun _ H=>fin H iJ rfl)
 clear H;intro a w G DN H hv;obtain ⟨u10,Np,uX⟩:=hv 3 10 (by decide) rfl;(try dsimp only at uX);obtain ⟨Zi,n10,c10,rfl⟩:=uX.form;have H:=H.jC Np;obtain ⟨u14,Nq,uw⟩:=hv 7 14 (by decide) rfl;(try dsimp only at uw);obtain ⟨S9,n14,c14,rfl⟩:=uw.form;have H:=H.jC Nq;have H:=H.aN (hv 9 16 rfl rfl) rfl;clear hv;refine bK uD 1 (vs:=[_]) H wn rfl ?_;clear H;intro w H;refine kH H (Rf qp rfl (Rf Av rfl ?_));clear H;intro a H;refine bK Bu 1 (vs:=[_]) H wn rfl ?_;clear H;intro w H;refine aB ⟨rfl,?_⟩;refine K3 _ _ ?_;clear K3;refine dz (fun _ K4=>?_);refine aV dW (cs:=[_,_,_,_,_]) H wn rfl rfl (H.hp.cB 1 rfl rfl) rfl ?_;clear H;intro a H;refine bK dW 0 (vs:=[_,_,_,_,_]) H wn rfl ?_;clear H;intro w H;refine K4 _ _ ?_;clear K4;refine dw ?_;refine (leave1 H results108 (.cons (mI dW (cs:=[_,_,_,_,_]) H rfl rfl (H.hp.cB 0 rfl rfl)) .nil) ?_).1;exact H.rt ⟨_,_,_,rfl,sD.mono DN,uX,uw⟩
theorem xZ {G:GH} {w:World} (h:Hold G w):gY G [] w:=⟨h,fun _ h=>(by cases h),fun _ h=>(by cases h),List.Pairwise.nil⟩
theorem aav {p:Prop} (h:p:=by
 exact ⟨none,0,by simp,by simp,by simp [maxLen],fun h=>absurd rfl h⟩):p:=h
theorem JA {P:Program} {f:FuncId} {args:Array ah} {w0:World} {G:GH} {e sz n:Nat} {rows:List (List Dat)} (hG:Hold G w0) (h:Calls P f args w0 (gF w0 G [] fun u G' L'=>∃ xs,dR e sz u n xs L'∧dK G' sz rows xs)) (hl:rows.length=n) :
  Calls P f args w0 (bE w0 G fun u G'=>ak G' (.sl sz rows) u):=by
 intro cs;obtain ⟨e1,w',fr,⟨v,G',L',rfl,hch,xs,hrow,fQ⟩,h2,h3,h4⟩:=h cs;have hp0:Hp w0 (fun k=>k < w0.heap.size) G G ([]++[]) w0:=⟨rfl,rfl,rfl,eP _,fun _ h=>h,fun _ _=>rfl,hG,fun _ _ h=>h,fun _ _ h=>.inl h,fun _ h=>(by cases h),fun _ h=>(by cases h),fun _ h=>(by cases h),List.Pairwise.nil⟩;have hp1:=hp0.change hch;rw [nQ] at hp1;refine ⟨_,w',fr,?_,h2,h3,h4⟩
 rcases hrow.2 with ⟨rfl,h5,rfl⟩|⟨b,cap,cur,rfl,rfl,h5,h6,h7,h8⟩
 ·refine hp1.ret ?_;have:rows=[]:=List.eq_nil_of_length_eq_zero (by omega);subst this
  simp only [ak]
  exact aav
 have hn:=hp1.vg (b,.cells cur e (0,0)) (by simp);exact (hp1.giveUp 0 rfl).ret (ak.vZ (GH.Jj G' b _) hl h5 h6 h8 (fQ.mono fun k o h=>GH.Ji G' hn k o h))
def Da (fv:ah) (w0:World) (G:GH) (d d':List Dat):Prop:=∀ (G1:GH) (w1:World) (cs:List ah),(∀ b o,G b=some o->G1 b=some o)->Hold G1 w1->bD G1 d cs ->
 sK prog fv [.agg cs.toArray] w1 (bE w1 G1 fun u G'=>∃ cs',u=.agg cs'.toArray∧bD G' d' cs')
abbrev I6 (fv:ah) (w0:World) (G:GH) (d:List Dat):Prop:=Da fv w0 G d d
theorem TU {p:Prop} (h:p:=by
 exact ⟨by omega,dR.nil,by simpa using dK.nil,fun _ _ h=>h⟩):p:=h
theorem TW {p:Prop} (h:p:=by
 exact (fQ.mono sw).snoc (by simpa using cu) (by rw [zP];rfl)):p:=h
theorem T9 {p:Prop} (h:p:=by
 exact H.hp.gT ⟨_,hrw,by rw [jm (by simp)] at fQ;exact fQ⟩):p:=h
theorem abQ (φ:au->au) (G:GH) (w0:World) (hO:gY G [] w0) (l:List au) (v fv:ah) (hv:ak G (.sl 11 (l.map au.dat)) v) (hz:l.length<=4294967296) (hf:∀ x∈l,Da fv w0 G x.dat (φ x).dat) :
  Calls prog 140 #[v,fv] w0 (gF w0 G [] fun u G' L'=>∃ xs,dR 68 11 u l.length xs L'∧dK G' 11 (l.map fun x=>(φ x).dat) xs):=by
 obtain ⟨A,c,rfl,hc1,hc2,hg⟩:=hv.slice
 have hml:4294967297<=maxLen:=by decide
 rw [bQ] at *;refine jD (N:=22) (T:=[(0,_),(1,_)]) func140 rfl ntmps140 rfl rfl hO ?_;intro a H;refine kP H (SR fun _ K1=>aj K1 rfl (SR fun _ K2=>aj K2 rfl (SQ fun _ K3=>SR fun _ K4=>Rm rfl (Rl jo rfl (Rm rfl (Kz K4 (SB ?_)))))));clear H K1 K2 K4;intro a H;skip;refine fF (ι:=Nat × ah × List ah × OL × GH) (Tc:=[(1,_),(8,_),(9,_)]) (Lc:=[]) (fun gh=>[(5,gh.2.1),(10,vi gh.1)]) (fun gh=>[]++gh.2.2.2.1) (fun gh=>gh.2.2.2.2) (fun gh=>gh.1<=l.length∧dR 68 11 gh.2.1 gh.1 gh.2.2.1 gh.2.2.2.1∧dK gh.2.2.2.2 11 ((l.map fun x=>(φ x).dat).take gh.1) gh.2.2.1∧(∀ b o,G b=some o->gh.2.2.2.2 b=some o)) (fun gh=>l.length - gh.1) ((0,.slice none 0 0,[],[],G)) (by exact H.sub ⟨rfl,rfl,rfl,rfl,rfl,ay⟩) ?_ ?_
 ·exact TU
 clear H;rintro ⟨k,v,xs,Lo,g⟩ a w hI H;dsimp only at hI H;obtain ⟨hk,hrw,fQ,hgm⟩:=hI;dsimp only [lca,bM] at H;refine kP H (SR fun _ K5=>Rc rfl (Kz K5 (SQ fun _ K6=>Cd rfl ?_ ?_))) <;> clear H K5
 ·intro h11 a H
  try have sF:=dT h11
  have hk2:k < l.length:=by omega
  obtain ⟨b,o,cs,rfl,hcl,hrow,hrep⟩:=hg k l[k].dat (by simp [hk2]);obtain ⟨pA,pn,pc,dA,dn,dc,yA,yn,yc,fA,fn,fc,rA,rn,rc,rfl,-⟩:=hrep.item;replace hrow:=fun j u hj=>aF hgm (hrow j u hj);refine kP H (Kc K6 (SQ fun _ K7=>SB (SR fun _ K8=>Ri jo gN rfl rfl ?_)));clear H K6;intro a H;refine aV gN (cs:=[_,_,_,_,_,_,_,_,_,_,_]) H wn rfl rfl (fun j v hj=>H.hp.aI (hrow j v hj)) rfl ?_;clear H;intro a H;refine dP gN H wn rfl ?_;clear H;intro b7 a w zN H;refine bK gN 0 (vs:=[_,_,_,_,_,_,_,_,_,_,_]) H wn rfl ?_;clear H;intro w H;refine K8 _ _ ?_;clear K8;refine kP H (SC (Rm rfl (Rm rfl ?_)));clear H;intro a H;refine aV gN (cs:=[_,_,_,_,_,_,_,_,_,_,_]) H wn rfl rfl (H.hp.cB 0 rfl rfl) rfl ?_;clear H;intro a H;refine jJ H wn rfl rfl (hf _ (lC hk2) _ _ _ hgm H.ro (hrep.mono hgm)) rfl ?_;clear H;rintro v17 zu a w ⟨Au,rfl,cu⟩ sw H;obtain ⟨cs,hcs⟩:∃ cs,cs=Au:=⟨_,rfl⟩;obtain ⟨pA,pn,pc,dA,dn,dc,yA,yn,yc,fA,fn,fc,rA,rn,rc,zP,-⟩:=cu.item;rw [zP] at H;refine iV jo gN [_,_,_,_,_,_,_,_,_,_,_] [_,_,_,_,_,_,_,_,_,_,_] H wn rfl rfl rfl rfl rfl (by intro i q h;match i,h with|0,h=>exact h|n+1,h=>simp at h) rfl rfl ?_;clear H;intro b18 a w Qs H;refine oZ (Li:=[_,_]) (Lo:=Lo) (news:=Au) jo gN rfl rfl H wn rfl rfl hrw (by rw [zP];rfl) (by rw [zP];exact H.hp.cB 0 rfl rfl) cu.one (by omega) (by omega) rfl ?_;clear H;intro v19 F6 a w zR H;refine kH H (bG K7 rfl (SC (Rd rfl (Rm rfl ?_))));clear H K7;intro a H;refine aB ?_;refine dJ ((k+1,v19,xs++Au,F6,zu)) (by exact (H.fG (Pl:=[_,_]) (eH:=[]) [] (by decide) rfl).sub ⟨rfl,rfl,rfl,rfl,rfl,ay⟩) ?_
  (try dsimp only);refine ⟨by omega,zR,?_,fun b o h=>sw b o (hgm b o h)⟩;rw [kg (by simpa using hk2)];exact TW
 intro h11 a H
 try have sF:=dF h11
 refine eu ?_;refine K3 _ _ ?_;clear K3;refine kP H (SR fun _ K9=>Rm rfl (aj K9 rfl ?_));clear H K9;intro a H;refine lr H results140 rfl ?_
 obtain rfl:k=l.length:=by omega
 exact T9
theorem akN (φ:au->au) (G:GH) (w0:World) (hG:Hold G w0) (l:List au) (v fv:ah) (hv:ak G (.sl 11 (l.map au.dat)) v) (hz:l.length<=4294967296) (hf:∀ x∈l,Da fv w0 G x.dat (φ x).dat) :
  Calls prog 140 #[v,fv] w0 (bE w0 G fun u G'=>ak G' (.sl 11 (l.map fun x=>(φ x).dat)) u):=JA hG (abQ φ G w0 (xZ hG) l v fv hv hz hf) (by simp)
theorem akJ (G:GH) (w0:World) (hG:Hold G w0) (l:List au) (v fv:ah) (hv:ak G (.sl 11 (l.map au.dat)) v) (hz:l.length<=4294967296) (hf:∀ x∈l,I6 fv w0 G x.dat) :
  Calls prog 140 #[v,fv] w0 (bE w0 G fun u G'=>ak G' (.sl 11 (l.map au.dat)) u):=akN (fun x=>x) G w0 hG l v fv hv hz hf
theorem akL (φ:aU->aU) (G:GH) (w0:World) (hO:gY G [] w0) (l:List aU) (v fv:ah) (hv:ak G (.sl 6 (l.map aU.dat)) v) (hz:l.length<=4294967296) (hf:∀ x∈l,Da fv w0 G x.dat (φ x).dat) :
  Calls prog 110 #[v,fv] w0 (gF w0 G [] fun u G' L'=>∃ xs,dR 74 6 u l.length xs L'∧dK G' 6 (l.map fun x=>(φ x).dat) xs):=by
 obtain ⟨A,c,rfl,hc1,hc2,hg⟩:=hv.slice
 have hml:4294967297<=maxLen:=by decide
 rw [bQ] at *;refine jD (N:=22) (T:=[(0,_),(1,_)]) func110 rfl ntmps110 rfl rfl hO ?_;intro a H;refine kP H (SR fun _ K1=>aj K1 rfl (SR fun _ K2=>aj K2 rfl (SQ fun _ K3=>SR fun _ K4=>Rm rfl (Rl nM rfl (Rm rfl (Kz K4 (SB ?_)))))));clear H K1 K2 K4;intro a H;skip;refine fF (ι:=Nat × ah × List ah × OL × GH) (Tc:=[(1,_),(8,_),(9,_)]) (Lc:=[]) (fun gh=>[(5,gh.2.1),(10,vi gh.1)]) (fun gh=>[]++gh.2.2.2.1) (fun gh=>gh.2.2.2.2) (fun gh=>gh.1<=l.length∧dR 74 6 gh.2.1 gh.1 gh.2.2.1 gh.2.2.2.1∧dK gh.2.2.2.2 6 ((l.map fun x=>(φ x).dat).take gh.1) gh.2.2.1∧(∀ b o,G b=some o->gh.2.2.2.2 b=some o)) (fun gh=>l.length - gh.1) ((0,.slice none 0 0,[],[],G)) (by exact H.sub ⟨rfl,rfl,rfl,rfl,rfl,ay⟩) ?_ ?_
 ·exact TU
 clear H;rintro ⟨k,v,xs,Lo,g⟩ a w hI H;dsimp only at hI H;obtain ⟨hk,hrw,fQ,hgm⟩:=hI;dsimp only [lca,bM] at H;refine kP H (SR fun _ K5=>Rc rfl (Kz K5 (SQ fun _ K6=>Cd rfl ?_ ?_))) <;> clear H K5
 ·intro h11 a H
  try have sF:=dT h11
  have hk2:k < l.length:=by omega
  obtain ⟨b,o,cs,rfl,hcl,hrow,hrep⟩:=hg k l[k].dat (by simp [hk2]);obtain ⟨pA,pn,pc,dA,dn,dc,yA,yn,yc,fA,fn,fc,rfl,-⟩:=hrep.row;replace hrow:=fun j u hj=>aF hgm (hrow j u hj);refine kP H (Kc K6 (SQ fun _ K7=>SB (SR fun _ K8=>Ri nM jG rfl rfl ?_)));clear H K6;intro a H;refine aV jG (cs:=[_,_,_,_,_,_]) H wn rfl rfl (fun j v hj=>H.hp.aI (hrow j v hj)) rfl ?_;clear H;intro a H;refine dP jG H wn rfl ?_;clear H;intro b7 a w zN H;refine bK jG 0 (vs:=[_,_,_,_,_,_]) H wn rfl ?_;clear H;intro w H;refine K8 _ _ ?_;clear K8;refine kP H (SC (Rm rfl (Rm rfl ?_)));clear H;intro a H;refine aV jG (cs:=[_,_,_,_,_,_]) H wn rfl rfl (H.hp.cB 0 rfl rfl) rfl ?_;clear H;intro a H;refine jJ H wn rfl rfl (hf _ (lC hk2) _ _ _ hgm H.ro (hrep.mono hgm)) rfl ?_;clear H;rintro v17 zu a w ⟨Au,rfl,cu⟩ sw H;obtain ⟨cs,hcs⟩:∃ cs,cs=Au:=⟨_,rfl⟩;obtain ⟨pA,pn,pc,dA,dn,dc,yA,yn,yc,fA,fn,fc,zP,-⟩:=cu.row;rw [zP] at H;refine iV nM jG [_,_,_,_,_,_] [_,_,_,_,_,_] H wn rfl rfl rfl rfl rfl (by intro i q h;match i,h with|0,h=>exact h|n+1,h=>simp at h) rfl rfl ?_;clear H;intro b18 a w Qs H;refine oZ (Li:=[_,_]) (Lo:=Lo) (news:=Au) nM jG rfl rfl H wn rfl rfl hrw (by rw [zP];rfl) (by rw [zP];exact H.hp.cB 0 rfl rfl) cu.one (by omega) (by omega) rfl ?_;clear H;intro v19 F6 a w zR H;refine kH H (bG K7 rfl (SC (Rd rfl (Rm rfl ?_))));clear H K7;intro a H;refine aB ?_;refine dJ ((k+1,v19,xs++Au,F6,zu)) (by exact (H.fG (Pl:=[_,_]) (eH:=[]) [] (by decide) rfl).sub ⟨rfl,rfl,rfl,rfl,rfl,ay⟩) ?_
  (try dsimp only);refine ⟨by omega,zR,?_,fun b o h=>sw b o (hgm b o h)⟩;rw [kg (by simpa using hk2)];exact TW
 intro h11 a H
 try have sF:=dF h11
 refine eu ?_;refine K3 _ _ ?_;clear K3;refine kP H (SR fun _ K9=>Rm rfl (aj K9 rfl ?_));clear H K9;intro a H;refine lr H results110 rfl ?_
 obtain rfl:k=l.length:=by omega
 exact T9
theorem abS (φ:aU->aU) (G:GH) (w0:World) (hG:Hold G w0) (l:List aU) (v fv:ah) (hv:ak G (.sl 6 (l.map aU.dat)) v) (hz:l.length<=4294967296) (hf:∀ x∈l,Da fv w0 G x.dat (φ x).dat) :
  Calls prog 110 #[v,fv] w0 (bE w0 G fun u G'=>ak G' (.sl 6 (l.map fun x=>(φ x).dat)) u):=JA hG (akL φ G w0 (xZ hG) l v fv hv hz hf) (by simp)
theorem akM (G:GH) (w0:World) (hG:Hold G w0) (l:List aU) (v fv:ah) (hv:ak G (.sl 6 (l.map aU.dat)) v) (hz:l.length<=4294967296) (hf:∀ x∈l,I6 fv w0 G x.dat) :
  Calls prog 110 #[v,fv] w0 (bE w0 G fun u G'=>ak G' (.sl 6 (l.map aU.dat)) u):=abS (fun x=>x) G w0 hG l v fv hv hz hf
theorem akK (φ:aX->aX) (G:GH) (w0:World) (hO:gY G [] w0) (l:List aX) (v fv:ah) (hv:ak G (.sl 7 (l.map aX.dat)) v) (hz:l.length<=4294967296) (hf:∀ x∈l,Da fv w0 G x.dat (φ x).dat) :
  Calls prog 172 #[v,fv] w0 (gF w0 G [] fun u G' L'=>∃ xs,dR 76 7 u l.length xs L'∧dK G' 7 (l.map fun x=>(φ x).dat) xs):=by
 obtain ⟨A,c,rfl,hc1,hc2,hg⟩:=hv.slice
 have hml:4294967297<=maxLen:=by decide
 rw [bQ] at *;refine jD (N:=22) (T:=[(0,_),(1,_)]) func172 rfl ntmps172 rfl rfl hO ?_;intro a H;refine kP H (SR fun _ K1=>aj K1 rfl (SR fun _ K2=>aj K2 rfl (SQ fun _ K3=>SR fun _ K4=>Rm rfl (Rl qj rfl (Rm rfl (Kz K4 (SB ?_)))))));clear H K1 K2 K4;intro a H;skip;refine fF (ι:=Nat × ah × List ah × OL × GH) (Tc:=[(1,_),(8,_),(9,_)]) (Lc:=[]) (fun gh=>[(5,gh.2.1),(10,vi gh.1)]) (fun gh=>[]++gh.2.2.2.1) (fun gh=>gh.2.2.2.2) (fun gh=>gh.1<=l.length∧dR 76 7 gh.2.1 gh.1 gh.2.2.1 gh.2.2.2.1∧dK gh.2.2.2.2 7 ((l.map fun x=>(φ x).dat).take gh.1) gh.2.2.1∧(∀ b o,G b=some o->gh.2.2.2.2 b=some o)) (fun gh=>l.length - gh.1) ((0,.slice none 0 0,[],[],G)) (by exact H.sub ⟨rfl,rfl,rfl,rfl,rfl,ay⟩) ?_ ?_
 ·exact TU
 clear H;rintro ⟨k,v,xs,Lo,g⟩ a w hI H;dsimp only at hI H;obtain ⟨hk,hrw,fQ,hgm⟩:=hI;dsimp only [lca,bM] at H;refine kP H (SR fun _ K5=>Rc rfl (Kz K5 (SQ fun _ K6=>Cd rfl ?_ ?_))) <;> clear H K5
 ·intro h11 a H
  try have sF:=dT h11
  have hk2:k < l.length:=by omega
  obtain ⟨b,o,cs,rfl,hcl,hrow,hrep⟩:=hg k l[k].dat (by simp [hk2]);obtain ⟨pA,pn,pc,dA,dn,dc,yA,yn,yc,fA,fn,fc,rfl,-⟩:=hrep.cell;replace hrow:=fun j u hj=>aF hgm (hrow j u hj);refine kP H (Kc K6 (SQ fun _ K7=>SB (SR fun _ K8=>Ri qj kE rfl rfl ?_)));clear H K6;intro a H;refine aV kE (cs:=[_,_,_,_,_,_,_]) H wn rfl rfl (fun j v hj=>H.hp.aI (hrow j v hj)) rfl ?_;clear H;intro a H;refine dP kE H wn rfl ?_;clear H;intro b7 a w zN H;refine bK kE 0 (vs:=[_,_,_,_,_,_,_]) H wn rfl ?_;clear H;intro w H;refine K8 _ _ ?_;clear K8;refine kP H (SC (Rm rfl (Rm rfl ?_)));clear H;intro a H;refine aV kE (cs:=[_,_,_,_,_,_,_]) H wn rfl rfl (H.hp.cB 0 rfl rfl) rfl ?_;clear H;intro a H;refine jJ H wn rfl rfl (hf _ (lC hk2) _ _ _ hgm H.ro (hrep.mono hgm)) rfl ?_;clear H;rintro v17 zu a w ⟨Au,rfl,cu⟩ sw H;obtain ⟨cs,hcs⟩:∃ cs,cs=Au:=⟨_,rfl⟩;obtain ⟨pA,pn,pc,dA,dn,dc,yA,yn,yc,fA,fn,fc,zP,-⟩:=cu.cell;rw [zP] at H;refine iV qj kE [_,_,_,_,_,_,_] [_,_,_,_,_,_,_] H wn rfl rfl rfl rfl rfl (by intro i q h;match i,h with|0,h=>exact h|n+1,h=>simp at h) rfl rfl ?_;clear H;intro b18 a w Qs H;refine oZ (Li:=[_,_]) (Lo:=Lo) (news:=Au) qj kE rfl rfl H wn rfl rfl hrw (by rw [zP];rfl) (by rw [zP];exact H.hp.cB 0 rfl rfl) cu.one (by omega) (by omega) rfl ?_;clear H;intro v19 F6 a w zR H;refine kH H (bG K7 rfl (SC (Rd rfl (Rm rfl ?_))));clear H K7;intro a H;refine aB ?_;refine dJ ((k+1,v19,xs++Au,F6,zu)) (by exact (H.fG (Pl:=[_,_]) (eH:=[]) [] (by decide) rfl).sub ⟨rfl,rfl,rfl,rfl,rfl,ay⟩) ?_
  (try dsimp only);refine ⟨by omega,zR,?_,fun b o h=>sw b o (hgm b o h)⟩;rw [kg (by simpa using hk2)];exact TW
 intro h11 a H
 try have sF:=dF h11
 refine eu ?_;refine K3 _ _ ?_;clear K3;refine kP H (SR fun _ K9=>Rm rfl (aj K9 rfl ?_));clear H K9;intro a H;refine lr H results172 rfl ?_
 obtain rfl:k=l.length:=by omega
 exact T9
theorem abR (φ:aX->aX) (G:GH) (w0:World) (hG:Hold G w0) (l:List aX) (v fv:ah) (hv:ak G (.sl 7 (l.map aX.dat)) v) (hz:l.length<=4294967296) (hf:∀ x∈l,Da fv w0 G x.dat (φ x).dat) :
  Calls prog 172 #[v,fv] w0 (bE w0 G fun u G'=>ak G' (.sl 7 (l.map fun x=>(φ x).dat)) u):=JA hG (akK φ G w0 (xZ hG) l v fv hv hz hf) (by simp)
theorem akI (G:GH) (w0:World) (hG:Hold G w0) (l:List aX) (v fv:ah) (hv:ak G (.sl 7 (l.map aX.dat)) v) (hz:l.length<=4294967296) (hf:∀ x∈l,I6 fv w0 G x.dat) :
  Calls prog 172 #[v,fv] w0 (bE w0 G fun u G'=>ak G' (.sl 7 (l.map aX.dat)) u):=abR (fun x=>x) G w0 hG l v fv hv hz hf
def FT (n:Nat):Prop:=∀ (G:GH) (w0:World),Hold G w0->∀ (l:List au) (v:ah),ak G (.sl 11 (l.map au.dat)) v->dx l < n ->
 Calls prog 80 #[v] w0 (bE w0 G fun u G'=>ak G' (.sl 11 (l.map au.dat)) u)
theorem dZ {p:Prop} (h:p:=by
 exact fin H iJ rfl):p:=h
theorem Ug {p:Prop} (h:p:=by
 exact kH H (Ro kV 1 rfl fun _ H=>fin H iJ rfl)):p:=h
theorem ajV {n:Nat} (ih:FT n) (hn:n<=4294967296) (G:GH) (w0:World) (hG:Hold G w0) (x:aX) (cs:List ah) (hv:bD G x.dat cs) (hz:cZ x.dat < n+1) :
  Calls prog 203 #[.agg cs.toArray] w0 (bE w0 G fun u G'=>∃ cs',u=.agg cs'.toArray∧bD G' x.dat cs'):=by
 have he:=Er x;obtain ⟨pA,pn,pc,dA,dn,dc,yA,yn,yc,fA,fn,fc,rfl,hh,hf⟩:=hv.cell;refine eN [(0,_)] func203 rfl ntmps203 rfl rfl hG ?_;intro a H;refine dz (fun _ K1=>?_);refine eB (cs:=[_,_,_,_,_,_,_]) H wn rfl rfl rfl ?_;clear H;intro b1 a w hb1 H;refine dP kE H wn rfl ?_;clear H;intro b2 a w hb2 H;refine K1 _ _ ?_;clear K1;refine bR (fun _ K2=>?_)
 have gy:BM (fun (dh:Nat) (v:ah) (G:GH)=>match dh with|0=>v=(aK b1 0)|1=>v=vi x.id|2=>v=(aK b1 1)|3=>v=.agg #[.slice pA pn pc,vi x.head.marks.ins,vi x.head.marks.move,.slice dA dn dc,.slice yA yn yc]|4=>∃ p d l,v=.agg #[p,vi x.head.marks.ins,vi x.head.marks.move,d,l]∧jq G x.head p d l|5=>v=(aK b1 6)|6=>v=.slice fA fn fc|7=>ak G (.sl 11 (x.flow.map au.dat)) v|_=>True):=by intro dh v G G' hm h;(iterate 10 (rcases dh with _|dh;(first|exact h|exact let ⟨p,d,l,h1,h2⟩:=h;⟨p,d,l,h1,h2.mono hm⟩|exact ak.mono hm h)));exact trivial
 refine Am (hmx) [[],[0],[],[2],[2,3],[],[5],ra 2 5,ra 0 8,ra 0 9] [8,9] (by kernel_rfl) (by kernel_rfl) _ gy H ?_ ?_
 ·clear H;refine aC ?_ ?_ ?_ ?_ (aC ?_ ?_ ?_ ?_ (bP (bU rfl) (bP (bU rfl) dH)))
  ·refine dD [] rfl trivial (by kernel_rfl) gy rfl rfl ?_;intro aT a w G1 hG HT H fin;exact kH H (Rf JW rfl fun _ H=>fin H iJ rfl)
  ·refine dD [(0,3,_)] rfl ⟨fun _ _ h=>h,ay⟩ (by kernel_rfl) gy rfl rfl ?_;intro aT a w G1 hG HT H fin;exact kH H (Ro aG 1 rfl fun _ H=>fin H iJ rfl)
  ·refine dD [] rfl trivial (by kernel_rfl) gy rfl rfl ?_;intro aT a w G1 hG HT H fin;exact kH H (Rf He rfl fun _ H=>fin H iJ rfl)
  ·refine dD [(2,5,_)] rfl ⟨fun _ _ h=>h,ay⟩ (by kernel_rfl) gy rfl rfl ?_;intro aT a w G1 hG HT H fin;refine aV dW (cs:=[_,_,_,_,_]) H wn rfl rfl (H.hp.cB 1 rfl rfl) rfl ?_;clear H;intro a H;exact dZ
  ·refine dD [(3,6,_)] rfl ⟨fun _ _ h=>h,ay⟩ (by kernel_rfl) gy rfl rfl ?_;intro aT a w G1 hG HT H fin;refine s_call GU H wn rfl (GK _ _ H.ro x.head _ _ _ _ _ _ _ _ _ (hh.mono hG) (by omega)) rfl ?_;clear H;rintro v7 G7 a w D6 J5 H;exact fin H J5 (D6)
  ·refine dD [] rfl trivial (by kernel_rfl) gy rfl rfl ?_;intro aT a w G1 hG HT H fin;exact kH H (Rf EO rfl fun _ H=>fin H iJ rfl)
  ·refine dD [(5,8,_)] rfl ⟨fun _ _ h=>h,ay⟩ (by kernel_rfl) gy rfl rfl ?_;intro aT a w G1 hG HT H fin;exact Ug
  refine dD [(6,9,_)] rfl ⟨fun _ _ h=>h,ay⟩ (by kernel_rfl) gy rfl rfl ?_;intro aT a w G1 hG HT H fin;refine s_call Ve H wn rfl (ih _ _ H.ro x.flow _ (hf.mono hG) (by omega)) rfl ?_;clear H;rintro v10 BD a w uX tq H;exact fin H tq (uX)
 clear H;intro a w G jy H hv;have H:=H.aN (hv 1 4 rfl rfl) rfl;obtain ⟨u7,Xe,D6⟩:=hv 4 7 (by decide) rfl;(try dsimp only at D6);obtain ⟨p7,d7,l7,rfl,AZ⟩:=D6;obtain ⟨a1,a2,a3,rfl⟩:=AZ.props.form;obtain ⟨a4,a5,a6,rfl⟩:=AZ.bJ.form;obtain ⟨a7,a8,a9,rfl⟩:=AZ.layers.form;have H:=H.jC Xe;obtain ⟨u10,Np,uX⟩:=hv 7 10 (by decide) rfl;(try dsimp only at uX);obtain ⟨Zi,n10,c10,rfl⟩:=uX.form;have H:=H.jC Np;clear hv;refine jF YP [_,_,_,_,_,_,_] H wn rfl rfl rfl rfl ?_;clear H;intro a H;refine bK kE 0 (vs:=[_,_,_,_,_,_,_]) H wn rfl ?_;clear H;intro w H;refine aB ⟨rfl,?_⟩;refine K2 _ _ ?_;clear K2;refine dw ?_;refine (leave1 H results203 (.cons (mI kE (cs:=[_,_,_,_,_,_,_]) H rfl rfl (H.hp.cB 0 rfl rfl)) .nil) ?_).1;exact H.rt ⟨_,rfl,bD.Q9 AZ uX⟩
theorem ajU {n:Nat} (ih:FT n) (hn:n<=4294967296) {G:GH} {w0:World} (x:aX) (hz:cZ x.dat < n+1):I6 (.func (.func 203) #[] #[]) w0 G x.dat:=by
 intro G1 w1 cs hm1 hG1 hr;have h:=ajV ih hn _ _ hG1 x cs hr hz;have h2:=jv (P:=prog) (caps:=[]) (args:=[.agg cs.toArray]) amf h;exact h2
theorem akk {n:Nat} (ih:FT n) (hn:n<=4294967296) (G:GH) (w0:World) (hG:Hold G w0) (x:aU) (cs:List ah) (hv:bD G x.dat cs) (hz:cZ x.dat < n+1) :
  Calls prog 142 #[.agg cs.toArray] w0 (bE w0 G fun u G'=>∃ cs',u=.agg cs'.toArray∧bD G' x.dat cs'):=by
 have he:=Es x;have hl:=OB x.cells;obtain ⟨pA,pn,pc,dA,dn,dc,yA,yn,yc,fA,fn,fc,rfl,hh,hf⟩:=hv.row;refine eN [(0,_)] func142 rfl ntmps142 rfl rfl hG ?_;intro a H;refine dz (fun _ K1=>?_);refine eB (cs:=[_,_,_,_,_,_]) H wn rfl rfl rfl ?_;clear H;intro b1 a w hb1 H;refine dP jG H wn rfl ?_;clear H;intro b2 a w hb2 H;refine K1 _ _ ?_;clear K1;refine bR (fun _ K2=>?_)
 have gy:BM (fun (dh:Nat) (v:ah) (G:GH)=>match dh with|0=>v=(aK b1 0)|1=>v=.agg #[.slice pA pn pc,vi x.head.marks.ins,vi x.head.marks.move,.slice dA dn dc,.slice yA yn yc]|2=>∃ p d l,v=.agg #[p,vi x.head.marks.ins,vi x.head.marks.move,d,l]∧jq G x.head p d l|3=>v=(aK b1 5)|4=>v=.slice fA fn fc|5=>ak G (.sl 7 (x.cells.map aX.dat)) v|_=>True):=by intro dh v G G' hm h;(iterate 8 (rcases dh with _|dh;(first|exact h|exact let ⟨p,d,l,h1,h2⟩:=h;⟨p,d,l,h1,h2.mono hm⟩|exact ak.mono hm h)));exact trivial
 refine Am (hmx) [[],[0],[0,1],[],[3],ra 0 5,ra 0 6,ra 0 7] [6,7] (by kernel_rfl) (by kernel_rfl) _ gy H ?_ ?_
 ·clear H;refine aC ?_ ?_ ?_ ?_ (aC ?_ ?_ (bU rfl) (bU rfl) dH)
  ·refine dD [] rfl trivial (by kernel_rfl) gy rfl rfl ?_;intro aT a w G1 hG HT H fin;exact kH H (Rf GZ rfl fun _ H=>fin H iJ rfl)
  ·refine dD [(0,3,_)] rfl ⟨fun _ _ h=>h,ay⟩ (by kernel_rfl) gy rfl rfl ?_;intro aT a w G1 hG HT H fin;refine aV dW (cs:=[_,_,_,_,_]) H wn rfl rfl (H.hp.cB 1 rfl rfl) rfl ?_;clear H;intro a H;exact dZ
  ·refine dD [(1,4,_)] rfl ⟨fun _ _ h=>h,ay⟩ (by kernel_rfl) gy rfl rfl ?_;intro aT a w G1 hG HT H fin;refine s_call GU H wn rfl (GK _ _ H.ro x.head _ _ _ _ _ _ _ _ _ (hh.mono hG) (by omega)) rfl ?_;clear H;rintro v5 G5 a w sD oz H;exact fin H oz (sD)
  ·refine dD [] rfl trivial (by kernel_rfl) gy rfl rfl ?_;intro aT a w G1 hG HT H fin;exact kH H (Rf yN rfl fun _ H=>fin H iJ rfl)
  ·refine dD [(3,6,_)] rfl ⟨fun _ _ h=>h,ay⟩ (by kernel_rfl) gy rfl rfl ?_;intro aT a w G1 hG HT H fin;exact kH H (Ro zm 1 rfl fun _ H=>fin H iJ rfl)
  refine dD [(4,7,_)] rfl ⟨fun _ _ h=>h,ay⟩ (by kernel_rfl) gy rfl rfl ?_;intro aT a w G1 hG HT H fin;refine s_call acd H wn rfl (akI _ _ H.ro x.cells _ _ (hf.mono hG) (by omega) (fun y hy=>ajU ih hn y (by have:=ahU hy;omega))) rfl ?_;clear H;rintro v8 G8 a w nU qy H;exact fin H qy (nU)
 clear H;intro a w G jy H hv;obtain ⟨u5,Il,sD⟩:=hv 2 5 (by decide) rfl;(try dsimp only at sD);obtain ⟨p5,d5,l5,rfl,uq⟩:=sD;obtain ⟨a1,a2,a3,rfl⟩:=uq.props.form;obtain ⟨a4,a5,a6,rfl⟩:=uq.bJ.form;obtain ⟨a7,a8,a9,rfl⟩:=uq.layers.form;have H:=H.jC Il;obtain ⟨u8,Bg,nU⟩:=hv 5 8 (by decide) rfl;(try dsimp only at nU);obtain ⟨A8,n8,c8,rfl⟩:=nU.form;have H:=H.jC Bg;clear hv;refine jF YK [_,_,_,_,_,_] H wn rfl rfl rfl rfl ?_;clear H;intro a H;refine bK jG 0 (vs:=[_,_,_,_,_,_]) H wn rfl ?_;clear H;intro w H;refine aB ⟨rfl,?_⟩;refine K2 _ _ ?_;clear K2;refine dw ?_;refine (leave1 H results142 (.cons (mI jG (cs:=[_,_,_,_,_,_]) H rfl rfl (H.hp.cB 0 rfl rfl)) .nil) ?_).1;exact H.rt ⟨_,rfl,bD.Rb uq nU⟩
theorem akj {n:Nat} (ih:FT n) (hn:n<=4294967296) {G:GH} {w0:World} (x:aU) (hz:cZ x.dat < n+1):I6 (.func (.func 142) #[] #[]) w0 G x.dat:=by
 intro G1 w1 cs hm1 hG1 hr;have h:=akk ih hn _ _ hG1 x cs hr hz;have h2:=jv (P:=prog) (caps:=[]) (args:=[.agg cs.toArray]) als h;exact h2
theorem ajT {n:Nat} (ih:FT n) (hn:n<=4294967296) (G:GH) (w0:World) (hG:Hold G w0) (x:au) (cs:List ah) (hv:bD G x.dat cs) (hz:cZ x.dat < n+1) :
  Calls prog 141 #[.agg cs.toArray] w0 (bE w0 G fun u G'=>∃ cs',u=.agg cs'.toArray∧bD G' x.dat cs'):=by
 have he:=Ac x;have hl:=OD x.rows;obtain ⟨pA,pn,pc,dA,dn,dc,yA,yn,yc,fA,fn,fc,rA,rn,rc,rfl,hh,hf,hr⟩:=hv.item;refine eN [(0,_)] func141 rfl ntmps141 rfl rfl hG ?_;intro a H;refine dz (fun _ K1=>?_);refine eB (cs:=[_,_,_,_,_,_,_,_,_,_,_]) H wn rfl rfl rfl ?_;clear H;intro b1 a w hb1 H;refine dP gN H wn rfl ?_;clear H;intro b2 a w hb2 H;refine K1 _ _ ?_;clear K1;refine bR (fun _ K2=>?_)
 have gy:BM (fun (dh:Nat) (v:ah) (G:GH)=>match dh with|0=>v=(aK b1 4)|1=>v=.agg #[.slice pA pn pc,vi x.head.marks.ins,vi x.head.marks.move,.slice dA dn dc,.slice yA yn yc]|2=>∃ p d l,v=.agg #[p,vi x.head.marks.ins,vi x.head.marks.move,d,l]∧jq G x.head p d l|3=>v=(aK b1 9)|4=>v=.slice fA fn fc|5=>ak G (.sl 11 (x.flow.map au.dat)) v|6=>v=(aK b1 10)|7=>v=.slice rA rn rc|8=>ak G (.sl 6 (x.rows.map aU.dat)) v|9=>v=(aK b1 4)|_=>True):=by intro dh v G G' hm h;(iterate 15 (rcases dh with _|dh;(first|exact h|exact let ⟨p,d,l,h1,h2⟩:=h;⟨p,d,l,h1,h2.mono hm⟩|exact ak.mono hm h)));exact trivial
 refine Am (hmx) [[],[0],[0,1],[],[3],ra 0 5,[],[6],ra 0 8,[0,1,2,3,4,6,7],ra 0 10,ra 0 11,ra 0 12,ra 0 13,ra 0 14] (ra 10 5) (by kernel_rfl) (by kernel_rfl) _ gy H ?_ ?_
 ·clear H;refine aC ?_ ?_ ?_ ?_ (aC ?_ ?_ ?_ ?_ (aC ?_ ?_ (bU rfl) (bU rfl) (bP (bU rfl) (bP (bU rfl) (bP (bU rfl) dH)))))
  ·refine dD [] rfl trivial (by kernel_rfl) gy rfl rfl ?_;intro aT a w G1 hG HT H fin;exact kH H (Rf wK rfl fun _ H=>fin H iJ rfl)
  ·refine dD [(0,3,_)] rfl ⟨fun _ _ h=>h,ay⟩ (by kernel_rfl) gy rfl rfl ?_;intro aT a w G1 hG HT H fin;refine aV dW (cs:=[_,_,_,_,_]) H wn rfl rfl (H.hp.cB 1 rfl rfl) rfl ?_;clear H;intro a H;exact dZ
  ·refine dD [(1,4,_)] rfl ⟨fun _ _ h=>h,ay⟩ (by kernel_rfl) gy rfl rfl ?_;intro aT a w G1 hG HT H fin;refine s_call GU H wn rfl (GK _ _ H.ro x.head _ _ _ _ _ _ _ _ _ (hh.mono hG) (by omega)) rfl ?_;clear H;rintro v5 G5 a w sD oz H;exact fin H oz (sD)
  ·refine dD [] rfl trivial (by kernel_rfl) gy rfl rfl ?_;intro aT a w G1 hG HT H fin;exact kH H (Rf zK rfl fun _ H=>fin H iJ rfl)
  ·refine dD [(3,6,_)] rfl ⟨fun _ _ h=>h,ay⟩ (by kernel_rfl) gy rfl rfl ?_;intro aT a w G1 hG HT H fin;exact Ug
  ·refine dD [(4,7,_)] rfl ⟨fun _ _ h=>h,ay⟩ (by kernel_rfl) gy rfl rfl ?_;intro aT a w G1 hG HT H fin;refine s_call Ve H wn rfl (ih _ _ H.ro x.flow _ (hf.mono hG) (by omega)) rfl ?_;clear H;rintro v8 G8 a w nU qy H;exact fin H qy (nU)
  ·refine dD [] rfl trivial (by kernel_rfl) gy rfl rfl ?_;intro aT a w G1 hG HT H fin;exact kH H (Rf um rfl fun _ H=>fin H iJ rfl)
  ·refine dD [(6,9,_)] rfl ⟨fun _ _ h=>h,ay⟩ (by kernel_rfl) gy rfl rfl ?_;intro aT a w G1 hG HT H fin;exact kH H (Ro uE 1 rfl fun _ H=>fin H iJ rfl)
  ·refine dD [(7,10,_)] rfl ⟨fun _ _ h=>h,ay⟩ (by kernel_rfl) gy rfl rfl ?_;intro aT a w G1 hG HT H fin;refine s_call abV H wn rfl (akM _ _ H.ro x.rows _ _ (hr.mono hG) (by omega) (fun y hy=>akj ih hn y (by have:=ahY hy;omega))) rfl ?_;clear H;rintro v11 uG a w xV pX H;exact fin H pX (xV)
  refine dD [] rfl trivial (by kernel_rfl) gy rfl rfl ?_;intro aT a w G1 hG HT H fin;exact kH H (Rf wK rfl fun _ H=>fin H iJ rfl)
 clear H;intro a w G jy H hv;obtain ⟨u5,Il,sD⟩:=hv 2 5 (by decide) rfl;(try dsimp only at sD);obtain ⟨p5,d5,l5,rfl,uq⟩:=sD;obtain ⟨a1,a2,a3,rfl⟩:=uq.props.form;obtain ⟨a4,a5,a6,rfl⟩:=uq.bJ.form;obtain ⟨a7,a8,a9,rfl⟩:=uq.layers.form;have H:=H.jC Il;obtain ⟨u8,Bg,nU⟩:=hv 5 8 (by decide) rfl;(try dsimp only at nU);obtain ⟨A8,n8,c8,rfl⟩:=nU.form;have H:=H.jC Bg;obtain ⟨YZ,Ik,xV⟩:=hv 8 11 (by decide) rfl;(try dsimp only at xV);obtain ⟨A11,n11,c11,rfl⟩:=xV.form;have H:=H.jC Ik;have H:=H.aN (hv 9 12 rfl rfl) rfl;clear hv;refine bK dW 1 (vs:=[_,_,_,_,_]) H wn rfl ?_;clear H;intro w H;refine kH H (Rf zK rfl ?_);clear H;intro a H;refine bK kV 1 (vs:=[_]) H wn rfl ?_;clear H;intro w H;refine kH H (Rf um rfl ?_);clear H;intro a H;refine bK uE 1 (vs:=[_]) H wn rfl ?_;clear H;intro w H;refine aB ⟨rfl,?_⟩;refine K2 _ _ ?_;clear K2;refine dz (fun _ K3=>?_);refine aV gN (cs:=[_,_,_,_,_,_,_,_,_,_,_]) H wn rfl rfl (H.hp.cB 1 rfl rfl) rfl ?_;clear H;intro a H;refine bK gN 0 (vs:=[_,_,_,_,_,_,_,_,_,_,_]) H wn rfl ?_;clear H;intro w H;refine K3 _ _ ?_;clear K3;refine dw ?_;refine (leave1 H results141 (.cons (mI gN (cs:=[_,_,_,_,_,_,_,_,_,_,_]) H rfl rfl (H.hp.cB 0 rfl rfl)) .nil) ?_).1;exact H.rt ⟨_,rfl,bD.mkItem uq nU xV⟩
theorem abj {n:Nat} (ih:FT n) (hn:n<=4294967296) {G:GH} {w0:World} (x:au) (hz:cZ x.dat < n+1):I6 (.func (.func 141) #[] #[]) w0 G x.dat:=by
 intro G1 w1 cs hm1 hG1 hr;have h:=ajT ih hn _ _ hG1 x cs hr hz;have h2:=jv (P:=prog) (caps:=[]) (args:=[.agg cs.toArray]) alr h;exact h2
theorem Uw:∀ n:Nat,n<=4294967297->FT n
 | 0,_=>fun _ _ _ _ _ _ h=>absurd h (by omega)
 | n+1,hn=>by
  intro G w0 hG l v hv hz;have ih:=Uw n (by omega);have hl:=Ll l;refine eN [(0,_)] func80 rfl ntmps80 rfl rfl hG ?_;intro a H;refine kP H (SR fun _ K1=>aj K1 rfl (SR fun _ K2=>Rm rfl ?_));clear H K1;intro a H;refine s_call abY H wn rfl (akJ _ _ H.ro l _ _ hv (by omega) (fun y hy=>abj ih (by omega) y (by have:=Ze hy;omega))) rfl ?_;clear H;rintro v4 G4 a w WU J4 H;exact kH H (aj K2 rfl (LR results80 rfl fun H=>H.rt WU))
section
section
variable {P:Program} {N:Nat} {D:List Deferred} {w0 w w':World} {F:Nat->Prop} {G0 G G':GH} {L L' Li Lo:OL} {T:List (Nat × ah)} {a a':Act} {Q:Exit->Act->World->Prop}
theorem St.cast (h:St N D w0 F G0 G L T a w) (e:L=L'):St N D w0 F G0 G L' T a w:=e ▸ h
theorem St.assoc {A B C:OL} (h:St N D w0 F G0 G ((A++B)++C) T a w):St N D w0 F G0 G (A++(B++C)) T a w:=h.cast (ko _ _ _)
theorem St.un {A B C:OL} (h:St N D w0 F G0 G (A++(B++C)) T a w):St N D w0 F G0 G ((A++B)++C) T a w:=h.cast (ko _ _ _).symm
theorem St.NG {A B:OL} (h:St N D w0 F G0 G (A++B) T a w):St N D w0 F G0 G (A++(B++[])) T a w:=h.cast (by rw [iF])
theorem ajg {ι κ:Type} {Lc:OL} {Aw:Operand} {ps:List Nat} {assign body:Code} {gf:FuncId} {caps:List ah} {xs:List AP} {Gi:GH}
  (Lv:Nat->ι->OL) (Lt:Nat->ι->OL) (inv:Nat->ι->GH->Prop) (cx:κ->Code) (Lx F7:κ->OL) (Bj:κ->GH->Prop) (i0:ι)
  (H:St N D w0 F G0 G (Lc++Lv 0 i0++Lt 0 i0) T a w) (hg:ev T Aw=some (.func (.func gf) #[] caps.toArray)) (en:∀ args w,(callFunc gf args).run P w=.ok (.enter gf args) w) (hit:Iter P Gi (.func (.func gf) #[] caps.toArray) xs) (hGi:∀ b o,Gi b=some o->G b=some o)
  (hps:ps.all (Nat.blt · N)=true) (hlen:∀ k args g,zq xs k args g->args.length=ps.length) (hinv:∀ k i (G G':GH),(∀ b o,G b=some o->G' b=some o)->inv k i G->inv k i G') (WE:∀ x (G G':GH),(∀ b o,G b=some o->G' b=some o)->Bj x G->Bj x G') (h0:inv 0 i0 G)
  (round:∀ (l:Nat) (IL Dr:Obj) (bk:OL) (k:Nat) (args:List ah) (i:ι) (G1:GH) (w1:World) (F1:Nat->Prop) (B1:Code->Exit->Act->World->Prop) (a1:Act),zq xs k args G1->(∀ b o,G b=some o->G1 b=some o)->inv k i G1 ->
   (∀ T' G2 L2 a2 w2 c,St N [] w1 F1 G1 G2 ((l,IL) :: L2) T' a2 w2->(∀ w3,St N [] w1 F1 G1 G2 ((l,Dr) :: L2) T' a2 w3->WP (some l) P c (B1 c) a2 w3)->Exit.then (fun a2 w2=>∃ w3,(Instr.beginRound l).run P w2=.ok () w3∧c.wpIn (FW (some l)) 0 P (B1 c) a2 w3) (fun _ _ _=>False) .normal a2 w2) ->
   (∀ i' T' G2 a2 w2 c,St N [] w1 F1 G1 G2 ((l,Dr) :: (Lc++Lv (k+1) i'++(bk++Lt (k+1) i'))) T' a2 w2->inv (k+1) i' G2->B1 c .normal a2 w2) ->
   (∀ x T' G2 a2 w2 c,St N [] w1 F1 G1 G2 ((l,Dr) :: (Lc++Lx x++(bk++F7 x))) T' a2 w2->Bj x G2->(cx x=.ret->B1 c .ret a2 w2)∧∀ n,cx x=.exit n->B1 c (.exit n) a2 w2) ->
   St N [] w1 F1 G1 G1 ((l,IL) :: (Lc++Lv k i++(bk++Lt k i))) (BZ ps args T) a1 w1 ->
   WP (some l) P assign (Exit.then (fun a2 w2=>∃ w3,(Instr.beginRound l).run P w2=.ok () w3∧body.wpIn (FW (some l)) 0 P (B1 body) a2 w3) (fun _ _ _=>False)) a1 w1)
  (hdone:∀ Dk i G1 a1 w1,(∀ b o,G b=some o->G1 b=some o)->inv xs.length i G1->St N ({ target:=.collected Dk,args:=#[] } :: D) w0 F G0 G1 ((Dk,.deferred (some [])) :: (Lc++Lv xs.length i++Lt xs.length i)) T a1 w1->Q .normal a1 w1)
  (hstop:∀ Dk x G1 a1 w1,(∀ b o,G b=some o->G1 b=some o)->Bj x G1->St N ({ target:=.collected Dk,args:=#[] } :: D) w0 F G0 G1 ((Dk,.deferred (some [])) :: (Lc++Lx x++F7 x)) T a1 w1->WP none P (cx x) Q a1 w1) :
  WP none P (.rangeFunc Aw ps.toArray assign body) Q a w:=by
 refine aje (J:=fun k g L=>∃ i,L=Lc++Lv k i++Lt k i∧inv k i g) (Jx:=fun c g L=>∃ x,c=cx x∧L=Lc++Lx x++F7 x∧Bj x g) H hg en hit hGi hps hlen (fun k G G' L hm ⟨i,e,h⟩=>⟨i,e,hinv k i G G' hm h⟩) (fun c G G' L hm ⟨x,e1,e2,h⟩=>⟨x,e1,e2,WE x G G' hm h⟩) ⟨i0,rfl,h0⟩ ?_ ?_ ?_
 ·rintro l q bk k args G1 L1 w1 a1 hk hm ⟨i,rfl,hi⟩ H1
  have pm:∀ A B:OL,(bk++(A++B)).Perm (A++(bk++B)):=fun A B=>by
   rw [<- ko,<- ko]
   exact List.Perm.append_right B wG
  refine round l (q.at .ready none) (q.at .busy none) bk k args i G1 w1 _ (fun _=>roundPost P l _) a1 hk hm hi ?_ ?_ ?_ (H1.perm (List.Perm.cons _ (pm _ _)))
  ·intro T' G2 L2 a2 w2 c H2 h
   exact aaR H2 h
  ·intro i' T' G2 a2 w2 c H2 h2
   exact KO none (H2.perm (List.Perm.cons _ (pm _ _).symm)) ⟨_,rfl,i',rfl,h2⟩
  ·intro x T' G2 a2 w2 c H2 h2
   have H3:=H2.perm (List.Perm.cons _ (pm _ _).symm)
   refine ⟨fun e=>?_,fun n e=>?_⟩
   ·exact KO (some .ret) H3 ⟨_,_,rfl,x,e.symm,rfl,h2⟩
   ·exact KO (some (.exit n)) H3 ⟨_,_,rfl,x,e.symm,rfl,h2⟩
 ·rintro Dk G1 L1 a1 w1 hm ⟨i,rfl,hi⟩ H1
  exact hdone Dk i G1 a1 w1 hm hi H1
 ·rintro Dk c G1 L1 a1 w1 hm ⟨x,rfl,rfl,hx⟩ H1
  exact hstop Dk x G1 a1 w1 hm hx H1
def XP (ds:List Nat):List Deferred:=ds.map fun b=>{ target:=.collected b,args:=#[] }
def Iy (ds:List Nat):OL:=ds.map fun b=>(b,.deferred (some []))
theorem ajd {r:Option Nat} {ι:Type} {c:Code} {Tc:List (Nat × ah)} {Lc:List (Nat × Obj)} (Dv:ι->List Deferred) (Tv:ι->List (Nat × ah)) (Lv:ι->List (Nat × Obj)) (Gv:ι->GH) (Pr:ι->Prop) (m:ι->Nat) (i0:ι)
  (H:St N (Dv i0) w0 F G0 (Gv i0) (Lc++Lv i0) (Tv i0++Tc) a w) (hP:Pr i0)
  (round:∀ i a w,Pr i->St N (Dv i) w0 F G0 (Gv i) (Lc++Lv i) (Tv i++Tc) a w ->
   WP r P c (Exit.then (fun a' w'=>∃ i',(St N (Dv i') w0 F G0 (Gv i') (Lc++Lv i') (Tv i'++Tc) a' w'∧Pr i')∧m i' < m i) Q) a w):WP r P (.loop c) Q a w :=
 aaT (fun i a w=>St N (Dv i) w0 F G0 (Gv i) (Lc++Lv i) (Tv i++Tc) a w∧Pr i) m i0 ⟨H,hP⟩ fun i a w hI=>round i a w hI.2 hI.1
theorem asO {ι:Type} {Dv:ι->List Deferred} {Tc:List (Nat × ah)} {Lc:List (Nat × Obj)} {Tv:ι->List (Nat × ah)} {Lv:ι->List (Nat × Obj)} {Gv:ι->GH} {Pr:ι->Prop} {m:ι->Nat} {i:ι} (i':ι)
  (H:St N (Dv i') w0 F G0 (Gv i') (Lc++Lv i') (Tv i'++Tc) a w) (hP:Pr i') (hm:m i' < m i) :
  ∃ i',(St N (Dv i') w0 F G0 (Gv i') (Lc++Lv i') (Tv i'++Tc) a w∧Pr i')∧m i' < m i:=⟨i',⟨H,hP⟩,hm⟩
theorem XC {fn:Func} {R:Ending->World->Prop} {Lh Lt:OL}:∀ (ds:List Nat) {a:Act} {w:World},St N (XP ds) w0 F G0 G (Lh++(Iy ds++Lt)) T a w ->
  (∀ a' w',St N [] w0 F G0 G (Lh++Lt) T a' w'->bodyPostM (FW none) 0 P fn R .ret a' w')->bodyPostM (FW none) 0 P fn R .ret a w∧bodyPostM (FW none) 0 P fn R .normal a w
 | [],a,w,H,k=>⟨k a w H,k a w H⟩
 | b :: ds,a,w,H,k=>by
  refine XB (b:=b) (D:=XP ds) H Lh.length (by rw [uM (eP _),Nat.sub_self];rfl) fun a' w' H'=>?_
  refine (XC ds (Lh:=Lh) (Lt:=Lt) (H'.cast ?_) k).1
  rw [List.eraseIdx_append_of_length_le (eP _),Nat.sub_self];rfl
end
end
def n1 (x:au):Nat:=if Om x=0 then jL x else 0
theorem ak.len {G:GH} {sz:Nat} {rows:List (List Dat)} {A:Option Addr} {n c:Nat} (h:ak G (.sl sz rows) (.slice A n c)):n=rows.length:=h.cells.1
theorem ak.at_ {G:GH} {sz:Nat} {rows:List (List Dat)} {A:Option Addr} {n c:Nat} (h:ak G (.sl sz rows) (.slice A n c)):∀ k r,rows[k]?=some r->∃ b o cs,A=some ⟨b,o,none⟩∧cs.length=sz∧(∀ j u,cs[j]?=some u->aI G b (o+k*sz+j)=some u)∧bD G r cs:=by
 obtain ⟨A2,c2,e,_,_,hg⟩:=h.slice
 cases e;exact hg
theorem RZ {G:GH} {l:List aU} {A:Option Addr} {k:Nat} (hk:k < l.length) (hg:∀ k r,(l.map aU.dat)[k]?=some r->∃ b o cs,A=some ⟨b,o,none⟩∧cs.length=6∧(∀ j u,cs[j]?=some u->aI G b (o+k*6+j)=some u)∧bD G r cs) :
  ∃ b o pA pn pc dA dn dc yA yn yc cA cn cc,A=some ⟨b,o,none⟩∧(∀ j u,[.slice pA pn pc,vi l[k].head.marks.ins,vi l[k].head.marks.move,.slice dA dn dc,.slice yA yn yc,.slice cA cn cc][j]?=some u->aI G b (o+k*6+j)=some u) ∧
   jq G l[k].head (.slice pA pn pc) (.slice dA dn dc) (.slice yA yn yc)∧ak G (.sl 7 (l[k].cells.map aX.dat)) (.slice cA cn cc):=by
 obtain ⟨b,o,cs,h1,h2,h3,h4⟩:=hg k l[k].dat (by simp [hk]);obtain ⟨pA,pn,pc,dA,dn,dc,yA,yn,yc,cA,cn,cc,rfl,h5,h6⟩:=h4.row;exact ⟨b,o,pA,pn,pc,dA,dn,dc,yA,yn,yc,cA,cn,cc,h1,h3,h5,h6⟩
theorem PE {G:GH} {l:List aX} {A:Option Addr} {k:Nat} (hk:k < l.length) (hg:∀ k r,(l.map aX.dat)[k]?=some r->∃ b o cs,A=some ⟨b,o,none⟩∧cs.length=7∧(∀ j u,cs[j]?=some u->aI G b (o+k*7+j)=some u)∧bD G r cs) :
  ∃ b o pA pn pc dA dn dc yA yn yc fA fn fc,A=some ⟨b,o,none⟩∧(∀ j u,[vi l[k].id,.slice pA pn pc,vi l[k].head.marks.ins,vi l[k].head.marks.move,.slice dA dn dc,.slice yA yn yc,.slice fA fn fc][j]?=some u->aI G b (o+k*7+j)=some u) ∧
   jq G l[k].head (.slice pA pn pc) (.slice dA dn dc) (.slice yA yn yc)∧ak G (.sl 11 (l[k].flow.map au.dat)) (.slice fA fn fc):=by
 obtain ⟨b,o,cs,h1,h2,h3,h4⟩:=hg k l[k].dat (by simp [hk]);obtain ⟨pA,pn,pc,dA,dn,dc,yA,yn,yc,fA,fn,fc,rfl,h5,h6⟩:=h4.cell;exact ⟨b,o,pA,pn,pc,dA,dn,dc,yA,yn,yc,fA,fn,fc,h1,h3,h5,h6⟩
structure jh where
 (f p d y r s1 s2 s3 s4:Option Addr × Nat × Nat)
 (ins move:Int)
abbrev aW (x:Option Addr × Nat × Nat):ah:=.slice x.1 x.2.1 x.2.2
abbrev jh.cells (D:jh):List ah:=[aW D.f,aW D.p,vi D.ins,vi D.move,aW D.d,aW D.y,aW D.r,aW D.s1,aW D.s2,aW D.s3,aW D.s4]
abbrev jh.val (D:jh):ah:=.agg D.cells.toArray
theorem aho:Ty prog 129 3 16 [.bool false,.bool false,.int .i64 0] true:=⟨by kernel_rfl,by kernel_rfl⟩
theorem JV:dX prog 68 2 2:=⟨by kernel_rfl⟩
theorem Vk:dX prog 129 2 2:=⟨by kernel_rfl⟩
theorem NZ:qR prog 129 [(0,1),(1,1),(2,1)] [.bool false,.bool false,.int .i64 0]:=⟨by kernel_rfl,by kernel_rfl⟩
theorem acI:dX prog 129 1 1:=⟨by kernel_rfl⟩
theorem C8:Ty prog 4 1 1 [.bool false] false:=⟨by kernel_rfl,by kernel_rfl⟩
theorem vO:dX prog 38 0 0:=⟨by kernel_rfl⟩
structure qO where
 id:Int
 items:List au
 body:Bool
 note:Bool
 tables:Int
mutual
def Ow (note:Bool) (t:Int):au->List qO
 | .mk k _ i _ _ f r=>if k=6 then ⟨i,f,false,true,t⟩ :: C9 true t f else if k=7 then FQ note t r else []
def C9 (note:Bool) (t:Int):List au->List qO
 | []=>[]
 | x :: l=>Ow note t x++C9 note t l
def FQ (note:Bool) (t:Int):List aU->List qO
 | []=>[]
 | r :: l=>Ox note t r++FQ note t l
def Ox (note:Bool) (t:Int):aU->List qO
 | .mk _ cs=>FP note t cs
def FP (note:Bool) (t:Int):List aX->List qO
 | []=>[]
 | c :: l=>Ou note t c++FP note t l
def Ou (note:Bool) (t:Int):aX->List qO
 | .mk i _ f=>⟨i,f,false,note,t+1⟩ :: C9 note (t+1) f
end
def JY (l:List au):List qO:=⟨0,l,true,false,0⟩ :: C9 false 0 l
theorem gM:Ty prog 38 11 232 [.slice none 0 0,.slice none 0 0,.int .i64 0,.int .i64 0,.slice none 0 0,.slice none 0 0,.slice none 0 0,.slice none 0 0,.slice none 0 0,.slice none 0 0,.slice none 0 0] true:=⟨by kernel_rfl,by kernel_rfl⟩
theorem aeP {α:Type} {p:α->Bool} {A:List α} {k:Nat} (hk:k < A.length) (h:(A.take k).findIdx? p=none) (hp:p A[k]=false):(A.take (k+1)).findIdx? p=none:=by
 rw [List.findIdx?_eq_none_iff] at h |-;rw [kg hk];intro x hx
 rcases jS.1 hx with hx|hx
 ·exact h x hx
 rw [pU.1 hx];exact hp
theorem Xp {α:Type} {p:α->Bool} {A:List α} {k:Nat} (hk:k < A.length) (h:(A.take k).findIdx? p=none) (hp:p A[k]=true):A.findIdx? p=some k:=by
 have e:A.findIdx? p=(A.take k++A.drop k).findIdx? p:=by rw [List.take_append_drop]
 rw [e,List.findIdx?_append,h,rU hk,List.findIdx?_cons,hp]
 simp;omega

theorem alL:aQ 171:=aR func171 rfl
def uJ (fv:ah) (G:GH) (d:List Dat) (b:Bool):Prop:=∀ (G1:GH) (w1:World) (cs:List ah),(∀ b o,G b=some o->G1 b=some o)->Hold G1 w1->bD G1 d cs ->
 sK prog fv [.agg cs.toArray] w1 (bE w1 G1 fun u G'=>u=.bool b)
def oG (o:Option Nat):Int:=match o with|some i=>i|none=>-1
theorem rW {p:Prop} (h:p:=by
 exact ⟨by omega,rfl,fun _ _ h=>h⟩):p:=h
theorem xJ {p:Prop} (h:p:=by
 first
  | exact H.rt (by rw [Xp hk2 hno h16];rfl)
  | exact H.rt (by rw [show l.take k=l from jm (by omega)] at hno;rw [hno];rfl)):p:=h
theorem ED {p:Prop} (h:p:=by
 exact ⟨by omega,aeP hk2 hno h16,fun b o h=>nA b o (hgm b o h)⟩):p:=h
theorem asa (G:GH) (w0:World) (hG:Hold G w0) (l:List aU) (p:aU->Bool) (v fv:ah) (hv:ak G (.sl 6 (l.map aU.dat)) v) (hf:∀ x∈l,uJ fv G x.dat (p x)) :
  Calls prog 171 #[v,fv] w0 (bE w0 G fun u G'=>u=vi (oG (l.findIdx? p))):=by
 obtain ⟨A,c,rfl,hc1,hc2,hg⟩:=hv.slice;have hml:maxLen=9223372036854775807:=rfl;rw [bQ] at *;refine eN [(0,_),(1,_)] func171 rfl ntmps171 rfl rfl hG ?_;intro a H;refine kP H (SR fun _ K1=>aj K1 rfl (SQ fun _ K2=>SR fun _ K3=>Rm rfl (Rl nM rfl (Rm rfl (Kz K3 (SB ?_))))));clear H K1 K3;intro a H;skip;refine fF (ι:=Nat × GH) (Tc:=[(0,_),(1,_),(7,_)]) (Lc:=[]) (fun gh=>[(8,vi gh.1)]) (fun gh=>[]) (fun gh=>gh.2) (fun gh=>gh.1<=l.length∧(l.take gh.1).findIdx? p=none∧(∀ b o,G b=some o->gh.2 b=some o)) (fun gh=>l.length - gh.1) ((0,G)) (by exact H.sub ⟨rfl,rfl,rfl,rfl,ay⟩) ?_ ?_
 ·exact rW
 clear H;rintro ⟨k,g⟩ a w hI H;dsimp only at hI H;obtain ⟨hk,hno,hgm⟩:=hI;dsimp only [lca,bM] at H;refine kP H (SR fun _ K4=>Rc rfl (Kz K4 (SQ fun _ K5=>Cd rfl ?_ ?_))) <;> clear H K4
 ·intro h9 a H
  try have p9:=dT h9
  have hk2:k < l.length:=by omega
  obtain ⟨b,o,cs,rfl,hcl,hrow,hrep⟩:=hg k l[k].dat (by simp [hk2]);obtain ⟨pA,pn,pc,dA,dn,dc,yA,yn,yc,fA,fn,fc,rfl,-⟩:=hrep.row;replace hrow:=fun j u hj=>aF hgm (hrow j u hj);refine kP H (Kc K5 (SQ fun _ K6=>SB (SR fun _ K7=>Rm rfl (aj K7 rfl (SR fun _ K8=>Rm rfl (Rm rfl (Rm rfl (Ri nM jG rfl rfl ?_))))))));clear H K5 K7;intro a H;refine aV jG (cs:=[_,_,_,_,_,_]) H wn rfl rfl (fun j v hj=>H.hp.aI (hrow j v hj)) rfl ?_;clear H;intro a H;refine jJ H wn rfl rfl (hf _ (lC hk2) _ _ _ hgm H.ro (hrep.mono hgm)) rfl ?_;clear H;rintro v16 ql a w rfl nA H;refine K8 _ _ ?_;clear K8;refine jr H rfl ?_ ?_
  ·intro h16
   try have p16:=dT h16
   refine kP H (SR fun _ K9=>Rm rfl (aj K9 rfl ?_));clear H K9;intro a H;refine lr H results171 rfl ?_
   exact xJ
  intro h16
  try have p16:=dF h16
  refine kP H (Kc K6 (SC (Rd rfl (Rm rfl ?_))));clear H K6;intro a H;refine aB ?_;refine dJ ((k+1,ql)) (by exact H.sub ⟨rfl,rfl,rfl,rfl,ay⟩) ?_
  (try dsimp only);exact ED
 intro h9 a H
 try have p9:=dF h9
 refine eu ?_;refine K2 _ _ ?_;clear K2;refine kP H (SR fun _ aS=>aj aS rfl ?_);clear H aS;intro a H;refine lr H results171 rfl ?_
 exact xJ
def mZ (p:Nat->Bool):Nat->Nat->Nat->Nat
 | 0,i,_=>i
 | f+1,i,j=>if i < j then (if p ((i+j) / 2) then mZ p f i ((i+j) / 2) else mZ p f ((i+j) / 2+1) j) else i
theorem Xi {p:Nat->Bool} {f i j:Nat} (hf:j - i<=f) (h:i < j):mZ p f i j=if p ((i+j) / 2) then mZ p (f - 1) i ((i+j) / 2) else mZ p (f - 1) ((i+j) / 2+1) j:=by
 match f,hf with
 | 0,hf=>omega
 | f+1,_=>rw [mZ,aD h];rfl
theorem Xf {p:Nat->Bool} {f i j:Nat} (h:¬ i < j):mZ p f i j=i:=by
 match f with
 | 0=>rfl
 | f+1=>rw [mZ,av h]
theorem QU {p:Nat->Bool}:∀ (f i j:Nat),i<=j->mZ p f i j<=j
 | 0,i,j,h=>h
 | f+1,i,j,h=>by
  rw [mZ]
  split
  ·split
   ·exact Nat.le_trans (QU f i _ (by omega)) (by omega)
   ·exact QU f _ j (by omega)
  ·exact h
theorem Xj {z:Int} (h1:0<=z) (h2:z < 18446744073709551616):IntKind.u64.wrap z=z:=by
 simp only [IntKind.wrap,IntKind.bits,IntKind.signed,LP,uK,if_false]
 omega
theorem Xg (n:Nat):((n:Nat):Int).fdiv (2 ^ 1)=((n / 2:Nat):Int):=by
 rw [Int.fdiv_eq_ediv_of_nonneg _ (by decide)];omega
def Cg (a b:Int):Int:=if a < b then -1 else if b < a then 1 else 0
theorem PN {a b:Int}:Cg a b < 0↔a < b:=by
 unfold Cg
 split
 ·simp [*]
 ·split <;> simp_all
theorem abm {a b:Int}:Cg a b=0↔a=b:=by
 unfold Cg
 split
 ·omega
 ·split <;> omega
def gQ (ks:List Int) (t:Int):Nat:=mZ (fun h=>decide (¬ ks.getD h 0 < t)) ks.length 0 ks.length
def nT (ks:List Int) (t:Int):Bool:=decide (ks[gQ ks t]?=some t)
theorem EI (ks:List Int) (t:Int):gQ ks t<=ks.length:=QU _ _ _ (lu _)
theorem MS {ks:List Int} {t:Int} (h:nT ks t=true):gQ ks t < ks.length:=by
 have:=pI h
 exact (jZ.1 this).1
theorem adw {ks:List Int} {t:Int} {n:Nat} (e:gQ ks t=n) (h:n < ks.length):nT ks t=decide (Cg ks[n] t=0):=by
 unfold nT
 rw [e,eD h]
 simp [abm]
theorem adx {ks:List Int} {t:Int} {n:Nat} (e:gQ ks t=n) (h:¬ n < ks.length):nT ks t=false:=by
 unfold nT
 rw [e,List.getElem?_eq_none (by omega)]
 simp
theorem getD_map {α:Type} {f:α->Int} {l:List α} {n:Nat} (h:n < l.length):(l.map f).getD n 0=f l[n]:=by
 simp [List.getD,h]
theorem Oh:prog.underlying 322=some (.slice 296):=by kernel_rfl
theorem wu:Ty prog 296 6 56 [.int .i64 0,.int .i64 0,.int .i64 0,.int .i64 0,.int .i64 0,.string ⟨#[]⟩] true:=⟨by kernel_rfl,by kernel_rfl⟩
theorem aha:qR prog 296 [(0,1),(1,1),(2,1),(3,1),(4,1),(5,1)] [.int .i64 0,.int .i64 0,.int .i64 0,.int .i64 0,.int .i64 0,.string ⟨#[]⟩]:=⟨by kernel_rfl,by kernel_rfl⟩
theorem UZ:aQ 174:=aR func174 rfl
structure kQ where
 num:Int
 J2:Int
 low:Int
 high:Int
 std:Int
 name:ByteArray
def kQ.dat (x:kQ):List Dat:=[li x.num,li x.J2,li x.low,li x.high,li x.std,.lf (.string x.name)]
def kQ.cells (x:kQ):List ah:=[vi x.num,vi x.J2,vi x.low,vi x.high,vi x.std,.string x.name]
def aL.cells (x:aL):List ah:=[vi x.key,vi x.value]
theorem asy (G:GH) (x:kQ):bD G x.dat x.cells:=by
 simp only [kQ.dat,kQ.cells,bD]
 exact ⟨_,_,rfl,by simp [ak,Value.oneCell'],_,_,rfl,by simp [ak,Value.oneCell'],_,_,rfl,by simp [ak,Value.oneCell'],_,_,rfl,by simp [ak,Value.oneCell'],_,_,rfl,by simp [ak,Value.oneCell'],_,_,rfl,by simp [ak,Value.oneCell'],rfl⟩
theorem asx {G:GH} {x:kQ} {cs:List ah} (h:bD G x.dat cs):cs=x.cells:=by
 simp only [kQ.dat,bD,ak] at h
 obtain ⟨v1,_,rfl,⟨rfl,-⟩,v2,_,rfl,⟨rfl,-⟩,v3,_,rfl,⟨rfl,-⟩,v4,_,rfl,⟨rfl,-⟩,v5,_,rfl,⟨rfl,-⟩,v6,_,rfl,⟨rfl,-⟩,rfl⟩:=h
 rfl
theorem aul (G:GH) (x:aL):bD G x.dat x.cells:=by
 simp only [aL.dat,aL.cells,bD]
 exact ⟨_,_,rfl,by simp [ak,Value.oneCell'],_,_,rfl,by simp [ak,Value.oneCell'],rfl⟩
theorem RG {G:GH} {x:aL} {cs:List ah} (h:bD G x.dat cs):cs=x.cells:=by
 simp only [aL.dat,bD,ak] at h
 obtain ⟨v1,_,rfl,⟨rfl,-⟩,v2,_,rfl,⟨rfl,-⟩,rfl⟩:=h
 rfl
theorem aeZ (G:GH):∀ (B A:List kQ),dK G 6 (A.map kQ.dat) (A.map kQ.cells).flatten->dK G 6 ((A++B).map kQ.dat) ((A++B).map kQ.cells).flatten
 | [],A,h=>by rw [iF];exact h
 | x :: B,A,h=>by
  have h2:=h.snoc (asy G x) rfl;have h3:=aeZ G B (A++[x]) (by simpa using h2)
  simpa using h3
theorem asA (G:GH) (A:List kQ):dK G 6 (A.map kQ.dat) (A.map kQ.cells).flatten:=aeZ G A [] dK.nil
theorem Gm {p:Prop} (h:p:=by
 exact ⟨b,o,h1,h3⟩):p:=h
theorem Xw {G:GH} {l:List kQ} {A:Option Addr} {n c k:Nat} (hv:ak G (.sl 6 (l.map kQ.dat)) (.slice A n c)) (hk:k < l.length):∃ b o,A=some ⟨b,o,none⟩∧(∀ j u,[vi l[k].num,vi l[k].J2,vi l[k].low,vi l[k].high,vi l[k].std,.string l[k].name][j]?=some u->aI G b (o+k*6+j)=some u):=by
 obtain ⟨A',c',he,_,_,hg⟩:=hv.slice
 injection he with e1 e2 e3
 subst e1;obtain ⟨b,o,cs,h1,h2,h3,h4⟩:=hg k l[k].dat (by simp [hk]);obtain rfl:=asx h4;exact Gm
theorem afX (G:GH):∀ (B A:List aL),dK G 2 (A.map aL.dat) (A.map aL.cells).flatten->dK G 2 ((A++B).map aL.dat) ((A++B).map aL.cells).flatten
 | [],A,h=>by rw [iF];exact h
 | x :: B,A,h=>by
  have h2:=h.snoc (aul G x) rfl;have h3:=afX G B (A++[x]) (by simpa using h2)
  simpa using h3
theorem RH (G:GH) (A:List aL):dK G 2 (A.map aL.dat) (A.map aL.cells).flatten:=afX G A [] dK.nil
theorem IJ {G:GH} {l:List aL} {A:Option Addr} {n c k:Nat} (hv:ak G (.sl 2 (l.map aL.dat)) (.slice A n c)) (hk:k < l.length):∃ b o,A=some ⟨b,o,none⟩∧(∀ j u,[vi l[k].key,vi l[k].value][j]?=some u->aI G b (o+k*2+j)=some u):=by
 obtain ⟨A',c',he,_,_,hg⟩:=hv.slice
 injection he with e1 e2 e3
 subst e1;obtain ⟨b,o,cs,h1,h2,h3,h4⟩:=hg k l[k].dat (by simp [hk]);obtain rfl:=RG h4;exact Gm
def Ir:List kQ:=[⟨1,1,0,1073741824,0,⟨#[99,104,97,114,97,99,116,101,114,45,115,116,121,108,101]⟩⟩,⟨2,1,0,1,0,⟨#[98,111,108,100]⟩⟩,⟨3,1,0,1,0,⟨#[105,116,97,108,105,99]⟩⟩,⟨4,1,0,3,0,⟨#[117,110,100,101,114,108,105,110,101]⟩⟩,⟨5,1,2,1638,22,⟨#[115,105,122,101]⟩⟩,⟨6,1,0,16777215,0,⟨#[99,111,108,111,114]⟩⟩,⟨7,1,0,63,0,⟨#[102,111,110,116]⟩⟩,⟨8,1,0,255,0,⟨#[108,97,110,103,117,97,103,101]⟩⟩,⟨9,1,-400,400,0,⟨#[114,97,105,115,101]⟩⟩,⟨10,1,0,1,0,⟨#[104,105,100,100,101,110]⟩⟩,⟨20,2,0,1073741824,0,⟨#[112,97,114,97,103,114,97,112,104,45,115,116,121,108,101]⟩⟩,⟨21,2,0,3,0,⟨#[97,108,105,103,110]⟩⟩,⟨22,2,-31680,31680,0,⟨#[108,101,102,116]⟩⟩,⟨23,2,-31680,31680,0,⟨#[114,105,103,104,116]⟩⟩,⟨24,2,-31680,31680,0,⟨#[102,105,114,115,116]⟩⟩,⟨25,2,0,31680,0,⟨#[98,101,102,111,114,101]⟩⟩,⟨26,2,0,31680,0,⟨#[97,102,116,101,114]⟩⟩,⟨27,2,0,31680,0,⟨#[108,101,97,100,105,110,103]⟩⟩,⟨28,2,0,1,0,⟨#[107,101,101,112,45,110,101,120,116]⟩⟩,⟨29,2,0,1,0,⟨#[107,101,101,112,45,108,105,110,101,115]⟩⟩,⟨30,2,0,1,1,⟨#[119,105,100,111,119]⟩⟩,⟨31,2,0,1,0,⟨#[112,97,103,101,45,98,101,102,111,114,101]⟩⟩,⟨32,2,0,9,0,⟨#[111,117,116,108,105,110,101]⟩⟩,⟨33,2,0,1073741824,0,⟨#[108,105,115,116]⟩⟩,⟨34,2,1,9,1,⟨#[108,101,118,101,108]⟩⟩,⟨35,2,0,32767,0,⟨#[114,101,115,116,97,114,116]⟩⟩,⟨36,2,1,31680,720,⟨#[116,97,98,45,115,116,111,112]⟩⟩,⟨37,2,0,1,0,⟨#[104,121,112,104,101,110,97,116,101]⟩⟩,⟨40,3,720,31680,12240,⟨#[112,97,103,101,45,119,105,100,116,104]⟩⟩,⟨41,3,720,31680,15840,⟨#[112,97,103,101,45,104,101,105,103,104,116]⟩⟩,⟨42,3,0,31680,1440,⟨#[116,111,112]⟩⟩,⟨43,3,0,31680,1440,⟨#[98,111,116,116,111,109]⟩⟩,⟨44,3,0,31680,1440,⟨#[105,110,110,101,114]⟩⟩,⟨45,3,0,31680,1440,⟨#[111,117,116,101,114]⟩⟩,⟨46,3,0,32767,0,⟨#[102,105,114,115,116,45,112,97,103,101]⟩⟩,⟨47,3,1,6,1,⟨#[112,97,103,101,45,102,111,114,109,97,116]⟩⟩,⟨50,4,0,1,0,⟨#[104,101,97,100,101,114]⟩⟩,⟨51,4,0,1,0,⟨#[99,97,110,116,45,115,112,108,105,116]⟩⟩,⟨52,4,0,31680,0,⟨#[114,111,119,45,104,101,105,103,104,116]⟩⟩,⟨60,5,1,32,1,⟨#[99,111,108,117,109,110,45,115,112,97,110]⟩⟩,⟨61,5,0,2,0,⟨#[118,101,114,116,105,99,97,108,45,109,101,114,103,101]⟩⟩,⟨62,5,0,31680,0,⟨#[99,101,108,108,45,119,105,100,116,104]⟩⟩,⟨63,5,0,16777215,16777215,⟨#[115,104,97,100,101]⟩⟩,⟨70,6,0,31680,0,⟨#[116,97,98,108,101,45,119,105,100,116,104]⟩⟩,⟨71,6,0,2,0,⟨#[116,97,98,108,101,45,97,108,105,103,110]⟩⟩]
set_option maxRecDepth 20000 in
theorem asB (G:GH) (w0:World) (hG:Hold G w0):Calls prog 250 #[] w0 (bE w0 G fun u G'=>ak G' (.sl 6 (Ir.map kQ.dat)) u):=by
 refine eN [] func250 rfl ntmps250 rfl rfl hG ?_;intro a H;refine kP H (SR fun _ K1=>aj K1 rfl (SR fun _ K2=>?_));clear H K1;intro a H;(iterate 45 refine jF aha [_,_,_,_,_,_] H wn rfl rfl rfl rfl ?_;clear H;intro a H);refine avF Oh wu (Ir.map kQ.cells) H wn rfl rfl rfl rfl rfl rfl rfl ?_;clear H;intro b46 a w ayG H;refine kH H (aj K2 rfl ?_);clear H K2;intro a H;refine lr H results250 rfl ?_;obtain ⟨Gz,hmz,hbz,H⟩:=H.fO;exact H.rt (ak.vZ (n:=45) (cap:=45) hbz rfl (eP _) (show 45<=maxLen by decide) (jm (eP _)) (asA _ _))
theorem Xt (G:GH) (w0:World) (hG:Hold G w0) (x:Int):Calls prog 174 #[vi x] w0 (bE w0 G fun u G'=>u=.bool false∧G=G'):=by
 refine eN [(0,_)] func174 rfl ntmps174 rfl rfl hG ?_;intro a H;exact kP H (SR fun _ K1=>aj K1 rfl (SR fun _ K2=>Rm rfl (Rm rfl (Rc rfl (aj K2 rfl (LR results174 rfl fun H=>H.rt ⟨by simp,rfl⟩))))))
theorem Uz {x y z:Int} (h:(x < y∧z=-1)∨(y < x∧z=1)∨(x=y∧z=0)):z=Cg x y:=by
 unfold Cg;split
 ·omega
 split <;> omega
theorem abr (G:GH) (w0:World) (hG:Hold G w0) (x y:Int):Calls prog 253 #[vi x,vi y] w0 (bE w0 G fun u G'=>u=vi (Cg x y)):=by
 refine eN [(0,_),(1,_)] func253 rfl ntmps253 rfl rfl hG ?_;intro a H;refine kP H (SR fun _ K1=>aj K1 rfl (SR fun _ K2=>Rm rfl ?_));clear H K1;intro a H;refine s_call UZ H wn rfl (Xt _ _ H.ro x) rfl ?_;clear H;rintro v8 G8 a w ⟨rfl,-⟩ rF H;refine kH H (aj K2 rfl (SR fun _ K3=>Rm rfl ?_));clear H K2;intro a H;refine s_call UZ H wn rfl (Xt _ _ H.ro y) rfl ?_;clear H;rintro v10 BD a w ⟨rfl,-⟩ DT H;refine kH H (aj K3 rfl (SQ fun _ K4=>SR fun _ K5=>Rm rfl (Kz K5 (Cd rfl ?_ ?_)))) <;> clear H K3 K5
 ·intro h11 a H
  cases h11
 intro h11 a H
 try have sF:=dF h11
 refine kP H (Kc K4 (SQ fun _ K6=>SR fun _ K7=>Rm rfl (Kz K7 (Cd rfl ?_ ?_)))) <;> clear H K4 K7
 ·intro gL a H
  cases gL
 intro gL a H
 try have sG:=dF gL
 refine kP H (Kc K6 (SQ fun _ K8=>SR fun _ K9=>Rm rfl (Rm rfl (Rc rfl (Kz K9 (Cd rfl ?_ ?_)))))) <;> clear H K6 K9
 ·intro h16 a H
  try have p16:=dT h16
  exact kP H (SR fun _ aS=>aj aS rfl (LR results253 rfl fun H=>H.rt (cO vi (Uz (by omega)))))
 intro h16 a H
 try have p16:=dF h16
 refine kP H (Kc K8 (SQ fun _ bH=>SR fun _ bT=>Rm rfl (Rm rfl (Rc rfl (Kz bT (Cd rfl ?_ ?_)))))) <;> clear H K8 bT
 ·intro h19 a H
  try have tJ:=dT h19
  exact kP H (SR fun _ cK=>aj cK rfl (LR results253 rfl fun H=>H.rt (cO vi (Uz (by omega)))))
 intro h19 a H
 try have tJ:=dF h19
 exact kP H (Kc bH (SR fun _ dB=>aj dB rfl (LR results253 rfl fun H=>H.rt (cO vi (Uz (by omega))))))
def mO (l:List aL):List ah:=(l.map aL.cells).flatten
theorem UG:∀ l:List aL,(mO l).length=l.length*2
 | []=>rfl
 | p :: l=>by
  have:=UG l
  simp only [mO,fH,List.flatten_cons,jM] at this |-
  rw [this,show p.cells.length=2 from rfl,lg];omega
theorem Ml (l m:List aL):mO (l++m)=mO l++mO m:=by simp [mO]
theorem aum {G:GH} {l:List aL} {xs:List ah} (h:dK G 2 (l.map aL.dat) xs):xs=mO l:=by
 obtain ⟨css,rfl,h2,h3⟩:=h;rw [bQ] at h2
 have e:css=l.map aL.cells:=by
  apply List.ext_getElem?
  intro j;rw [tT]
  by_cases hj:j < l.length
  ·have h4:=(h3 j l[j].dat css[j] (by simp [hj]) (eD (by omega))).1;rw [eD hj,eD (by omega),RG h4];rfl
  rw [List.getElem?_eq_none (by omega),List.getElem?_eq_none (by omega)];rfl
 rw [e];rfl
theorem aki {G:GH} {w0:World} (hO:gY G [] w0) (l:List aL) (v:ah) (hv:ak G (.sl 2 (l.map aL.dat)) v) (hz:l.length<=4294967296) :
  Calls prog 168 #[v] w0 (gF w0 G [] fun u G' L'=>dR 187 2 u l.length (mO l) L'):=by
 obtain ⟨A,c,rfl,_,_,-⟩:=hv.slice;obtain ⟨hn,hc1,hc2,hnil,hx⟩:=hv.cells;rw [bQ] at *;refine jD (N:=8) (T:=[(0,_)]) func168 rfl ntmps168 rfl rfl hO ?_;intro a H;refine kP H (SR fun _ K1=>aj K1 rfl (SQ fun _ K2=>SR fun _ K3=>Rm rfl ?_));clear H K1;intro a H;refine CQ gU H wn rfl rfl ?_;clear H;intro a H;refine K3 _ _ ?_;clear K3;refine jr H rfl ?_ ?_
 ·intro h4
  refine kP H (SR fun _ K4=>aj K4 rfl ?_);clear H K4;intro a H;refine lr H results168 rfl ?_
  have e:l=[]:=by simpa using hnil (by simpa using h4)
  subst e;exact H.hp.gT dR.nil
 intro h4
 try have p4:=dF h4
 refine iG ?_;refine K2 _ _ ?_;clear K2;refine bR (fun _ K5=>?_)
 have hA:¬ A=none:=by intro e;rw [e] at h4;cases h4
 refine pV ?_;refine CO gU iw H wn rfl ?_;clear H;intro b5 a w hb5 H;refine kH H (Rm rfl ?_);clear H;intro a H
 by_cases hr0:l=[]
 ·subst hr0;refine CK gU iw H wn rfl rfl (eP _) rfl ?_;clear H;intro a H;exact kH H (bG K5 rfl (LR results168 rfl fun H=>H.hp.gT dR.empty))
 obtain ⟨b,o,xs,rfl,hxl,hxc,hx1,fQ⟩:=hx (by simpa using hr0);obtain rfl:=aum fQ;refine oZ (Li:=[]) (Lo:=[_]) (news:=mO l) gU iw rfl rfl H wn rfl rfl dR.empty hxl (fun j u hj=>H.hp.aI (hxc j u hj)) hx1 (by omega) (by omega) rfl ?_;clear H;intro v7 Lo a w hrow H;rw [iA,nQ] at hrow;exact kH H (bG K5 rfl (LR results168 rfl fun H=>H.hp.gT hrow))
theorem afU {G:GH} {w0:World} (hO:gY G [] w0) (l:List aL) (v:ah) (hv:ak G (.sl 2 (l.map aL.dat)) v) (hz:l.length<=4294967296) :
  Calls prog 159 #[v] w0 (gF w0 G [] fun u G' L'=>dR 187 2 u l.length (mO l) L'):=by
 obtain ⟨A,c,rfl,_,_,-⟩:=hv.slice;rw [bQ] at *;refine jD (N:=5) (T:=[(0,_)]) func159 rfl ntmps159 rfl rfl hO ?_;intro a H;refine kP H (SR fun _ K1=>aj K1 rfl (SR fun _ K2=>Rm rfl ?_));clear H K1;intro a H;refine iE P6 (Li:=[]) (L:=[]) H wn rfl (aki (Hp.owns (Li:=[]) H.hp) l _ hv hz) rfl ?_;clear H;rintro v4 G4 L4 a w hrw M4 H;dsimp only [List.nil_append] at H;obtain ⟨A4,c4,rfl,-,-⟩:=hrw.shape;exact kH H (aj K2 rfl (LR results159 rfl fun H=>H.hp.gT hrw))
theorem aou:dX prog 296 0 0:=⟨by kernel_rfl⟩
theorem acn:aQ 253:=aR func253 rfl
theorem KZ:prog.underlying 199=some (.int .u64):=by kernel_rfl
theorem xP:dX prog 187 0 0:=⟨by kernel_rfl⟩
theorem amJ:aQ 252:=aR func252 rfl
theorem amN:aQ 261:=aR func261 rfl
theorem aaV (G:GH) (w0:World) (hG:Hold G w0) (x:kQ) (t:Int):sK prog (.func (.func 252) #[] #[]) [.agg x.cells.toArray,vi t] w0 (bE w0 G fun u G'=>u=vi (Cg x.num t)):=by
 refine jv (caps:=[]) amJ ?_;refine eN [(0,_),(1,_)] func252 rfl ntmps252 rfl rfl hG ?_;intro a H;refine dz (fun _ K1=>?_);refine eB (cs:=[_,_,_,_,_,_]) H wn rfl rfl rfl ?_;clear H;intro b2 a w hb2 H;refine kH H (aj K1 rfl (SR fun _ K2=>bO aou aG 0 rfl rfl (Rm rfl ?_)));clear H K1;intro a H;refine s_call acn H wn rfl (abr _ _ H.ro x.num t) rfl ?_;clear H;rintro v8 G8 a w rfl rF H;exact kH H (aj K2 rfl (LR results252 rfl fun H=>H.rt rfl))
theorem aap {p:Prop} (h:p:=by
 exact ⟨lu _,eP _,Nat.sub_le _ _,hbs.symm,fun _ _ h=>h⟩):p:=h
theorem aaq {p:Prop} (h:p:=by
 exact ⟨by omega,hj,by omega,heq,fun b o h=>E9 b o (hgm b o h)⟩):p:=h
theorem aar {p:Prop} (h:p:=by
 exact ⟨by omega,by omega,by omega,heq,fun b o h=>E9 b o (hgm b o h)⟩):p:=h
theorem aas {p:Prop} (h:p:=by
 exact H.rt (by rw [adw heq.symm (by rw [bQ];omega),<- heq];simp)):p:=h
theorem aat {p:Prop} (h:p:=by
 exact H.rt (by rw [adx heq.symm (by rw [bQ];omega),<- heq])):p:=h
theorem aiR (G:GH) (w0:World) (hG:Hold G w0) (l:List kQ) (t:Int) (v:ah) (hv:ak G (.sl 6 (l.map kQ.dat)) v) (hl:l.length<=4294967296) :
  Calls prog 251 #[v,vi t,.func (.func 252) #[] #[]] w0 (bE w0 G fun u G'=>u=.tuple #[vi (gQ (l.map kQ.num) t),.bool (nT (l.map kQ.num) t)]):=by
 obtain ⟨A,c,rfl,hc1,hc2,-⟩:=hv.slice;rw [bQ] at *;obtain ⟨p,hp⟩:∃ p:Nat->Bool,p=fun h=>decide (¬ (l.map kQ.num).getD h 0 < t):=⟨_,rfl⟩
 have hbs:gQ (l.map kQ.num) t=mZ p l.length 0 l.length:=by rw [hp,gQ,bQ]
 refine eN [(0,_),(1,_),(2,_)] func251 rfl ntmps251 rfl rfl hG ?_;intro a H;refine kP H (SR fun _ K1=>Ra rfl (aj K1 rfl (SR fun _ K2=>Rm rfl (Rl Oh rfl (aj K2 rfl (SR fun _ K3=>Rm rfl (Ra rfl (aj K3 rfl (SQ fun _ K4=>SB ?_)))))))));clear H K1 K2 K3;intro a H;skip;refine fF (ι:=Nat × Nat × Nat × GH) (Tc:=[(0,_),(1,_),(2,_),(8,_)]) (Lc:=[]) (fun gh=>[(9,vi gh.1),(10,vi gh.2.1)]) (fun gh=>[]) (fun gh=>gh.2.2.2) (fun gh=>gh.1<=gh.2.1∧gh.2.1<=l.length∧gh.2.1 - gh.1<=gh.2.2.1∧mZ p gh.2.2.1 gh.1 gh.2.1=gQ (l.map kQ.num) t∧(∀ b o,G b=some o->gh.2.2.2 b=some o)) (fun gh=>gh.2.1 - gh.1) ((0,l.length,l.length,G)) (by exact H.sub ⟨rfl,rfl,rfl,rfl,rfl,rfl,ay⟩) ?_ ?_
 ·exact aap
 clear H;rintro ⟨i,j,f,g⟩ a w hI H;dsimp only at hI H;obtain ⟨hij,hj,hf1,heq,hgm⟩:=hI;have CB:=hv.mono hgm;dsimp only [lca,bM] at H;refine kP H (SQ fun _ K5=>SR fun _ K6=>Rm rfl (Rm rfl (Rc rfl (Kz K6 (Cd rfl ?_ ?_))))) <;> clear H K6
 ·intro cu a H
  try have lN:=dT cu
  have hlt:i < j:=by omega
  rw [Xi hf1 hlt] at heq;obtain ⟨m,hm⟩:∃ m,m=(i+j) / 2:=⟨_,rfl⟩;rw [<- hm] at heq
  have hml:m < l.length:=by omega
  obtain ⟨b,o,rfl,hrow⟩:=Xw CB hml
  have hpm:p m=decide (¬ l[m].num < t):=by rw [hp];dsimp only;rw [getD_map hml]
  rw [hpm] at heq;refine kP H (Kc K5 (SB (SR fun _ K7=>Rm rfl (Rm rfl (Rd rfl ?_)))));clear H K5;intro a H;rw [show ((i:Int)+(j:Int))=((i+j:Nat):Int) by push_cast;rfl] at H;refine CP ((i+j:Nat):Int) KZ mJ H wn rfl (Xj (by omega) (by omega)) rfl ?_;clear H;intro a H;refine Sl _ H wn rfl rfl rfl (by decide) rfl ?_;clear H;intro a H;rw [Xg,<- hm] at H;refine CP (m:Int) mJ KZ H wn rfl (Im (by omega) (by omega)) rfl ?_;clear H;intro a H;refine kH H (aj K7 rfl (SR fun _ K8=>Rm rfl (Rm rfl (Rm rfl (Ri Oh wu rfl rfl ?_)))));clear H K7;intro a H;refine aV wu (cs:=[_,_,_,_,_,_]) H wn rfl rfl (fun j v hj=>H.hp.aI (hrow j v hj)) rfl ?_;clear H;intro a H;refine kH H (Rm rfl ?_);clear H;intro a H;refine jJ H wn rfl rfl (aaV _ _ H.ro l[m] t) rfl ?_;clear H;rintro v30 BG a w rfl E9 H;refine kH H (Rc rfl (Kz K8 (Cd rfl ?_ ?_))) <;> clear H K8
  ·intro h31 a H
   try have p31:=dT h31
   rw [av (by simpa using PN.1 p31)] at heq;refine kP H (SC (Rm rfl (Rd rfl (Ra rfl ?_))));clear H;intro a H;refine aB ?_;refine dJ ((m+1,j,f - 1,BG)) (by exact H.sub ⟨rfl,rfl,rfl,rfl,rfl,rfl,ay⟩) ?_
   (try dsimp only);exact aaq
  intro h31 a H
  try have p31:=dF h31
  rw [aD (by simpa using fun h=>p31 (PN.2 h))] at heq;refine kP H (SC (Rm rfl (Ra rfl ?_)));clear H;intro a H;refine aB ?_;refine dJ ((i,m,f - 1,BG)) (by exact H.sub ⟨rfl,rfl,rfl,rfl,rfl,rfl,ay⟩) ?_
  (try dsimp only);exact aar
 intro cu a H
 try have lN:=dF cu
 refine eu ?_;refine K4 _ _ ?_;clear K4;refine bR (fun _ K9=>?_);rw [Xf (by omega)] at heq;refine kP H (SC (Rm rfl (Rm rfl (Rm rfl (Rc rfl (Rm rfl (Sp 39 rfl ?_ ?_))))))) <;> clear H
 ·intro jI a H
  try have p39:=dT jI
  have hil:i < l.length:=by omega
  obtain ⟨b,o,rfl,hrow⟩:=Xw CB hil;refine kH H (YM jI rfl (YM jI rfl (YM jI rfl (YI Oh wu jI rfl rfl ?_))));clear H;intro a H;refine aV wu (cs:=[_,_,_,_,_,_]) H (wg H rfl rfl jI) rfl rfl (fun j v hj=>H.hp.aI (hrow j v hj)) rfl ?_;clear H;intro a H;refine kH H (YM jI rfl ?_);clear H;intro a H;refine jJ H (wg H rfl rfl jI) rfl rfl (aaV _ _ H.ro l[i] t) rfl ?_;clear H;rintro v46 Zx a w rfl adW H;refine kH H (YC jI rfl (Pt jI rfl (Ra rfl (bG K9 rfl ?_))));clear H K9;intro a H;refine dw ?_;refine (fJ H results251 (.cons (bB H rfl) (.cons (bB H rfl) .nil)) ?_).1;exact aas
 intro jI a H
 try have p39:=dF jI
 refine kH H (aM jI rfl (aM jI rfl (aJ jI rfl (Pf jI rfl (Ra rfl (bG K9 rfl ?_))))));clear H K9;intro a H;refine dw ?_;refine (fJ H results251 (.cons (bB H rfl) (.cons (bB H rfl) .nil)) ?_).1;exact aat
theorem aaW (G:GH) (w0:World) (hG:Hold G w0) (x:aL) (t:Int):sK prog (.func (.func 261) #[] #[]) [.agg x.cells.toArray,vi t] w0 (bE w0 G fun u G'=>u=vi (Cg x.key t)):=by
 refine jv (caps:=[]) amN ?_;refine eN [(0,_),(1,_)] func261 rfl ntmps261 rfl rfl hG ?_;intro a H;refine dz (fun _ K1=>?_);refine eB (cs:=[_,_]) H wn rfl rfl rfl ?_;clear H;intro b2 a w hb2 H;refine kH H (aj K1 rfl (SR fun _ K2=>bO xP aG 0 rfl rfl (Rm rfl ?_)));clear H K1;intro a H;refine s_call acn H wn rfl (abr _ _ H.ro x.key t) rfl ?_;clear H;rintro v8 G8 a w rfl rF H;exact kH H (aj K2 rfl (LR results261 rfl fun H=>H.rt rfl))
theorem aiS (G:GH) (w0:World) (hG:Hold G w0) (l:List aL) (t:Int) (v:ah) (hv:ak G (.sl 2 (l.map aL.dat)) v) (hl:l.length<=4294967296) :
  Calls prog 260 #[v,vi t,.func (.func 261) #[] #[]] w0 (bE w0 G fun u G'=>u=.tuple #[vi (gQ (l.map aL.key) t),.bool (nT (l.map aL.key) t)]):=by
 obtain ⟨A,c,rfl,hc1,hc2,-⟩:=hv.slice;rw [bQ] at *;obtain ⟨p,hp⟩:∃ p:Nat->Bool,p=fun h=>decide (¬ (l.map aL.key).getD h 0 < t):=⟨_,rfl⟩
 have hbs:gQ (l.map aL.key) t=mZ p l.length 0 l.length:=by rw [hp,gQ,bQ]
 refine eN [(0,_),(1,_),(2,_)] func260 rfl ntmps260 rfl rfl hG ?_;intro a H;refine kP H (SR fun _ K1=>Ra rfl (aj K1 rfl (SR fun _ K2=>Rm rfl (Rl gU rfl (aj K2 rfl (SR fun _ K3=>Rm rfl (Ra rfl (aj K3 rfl (SQ fun _ K4=>SB ?_)))))))));clear H K1 K2 K3;intro a H;skip;refine fF (ι:=Nat × Nat × Nat × GH) (Tc:=[(0,_),(1,_),(2,_),(8,_)]) (Lc:=[]) (fun gh=>[(9,vi gh.1),(10,vi gh.2.1)]) (fun gh=>[]) (fun gh=>gh.2.2.2) (fun gh=>gh.1<=gh.2.1∧gh.2.1<=l.length∧gh.2.1 - gh.1<=gh.2.2.1∧mZ p gh.2.2.1 gh.1 gh.2.1=gQ (l.map aL.key) t∧(∀ b o,G b=some o->gh.2.2.2 b=some o)) (fun gh=>gh.2.1 - gh.1) ((0,l.length,l.length,G)) (by exact H.sub ⟨rfl,rfl,rfl,rfl,rfl,rfl,ay⟩) ?_ ?_
 ·exact aap
 clear H;rintro ⟨i,j,f,g⟩ a w hI H;dsimp only at hI H;obtain ⟨hij,hj,hf1,heq,hgm⟩:=hI;have CB:=hv.mono hgm;dsimp only [lca,bM] at H;refine kP H (SQ fun _ K5=>SR fun _ K6=>Rm rfl (Rm rfl (Rc rfl (Kz K6 (Cd rfl ?_ ?_))))) <;> clear H K6
 ·intro cu a H
  try have lN:=dT cu
  have hlt:i < j:=by omega
  rw [Xi hf1 hlt] at heq;obtain ⟨m,hm⟩:∃ m,m=(i+j) / 2:=⟨_,rfl⟩;rw [<- hm] at heq
  have hml:m < l.length:=by omega
  obtain ⟨b,o,rfl,hrow⟩:=IJ CB hml
  have hpm:p m=decide (¬ l[m].key < t):=by rw [hp];dsimp only;rw [getD_map hml]
  rw [hpm] at heq;refine kP H (Kc K5 (SB (SR fun _ K7=>Rm rfl (Rm rfl (Rd rfl ?_)))));clear H K5;intro a H;rw [show ((i:Int)+(j:Int))=((i+j:Nat):Int) by push_cast;rfl] at H;refine CP ((i+j:Nat):Int) KZ mJ H wn rfl (Xj (by omega) (by omega)) rfl ?_;clear H;intro a H;refine Sl _ H wn rfl rfl rfl (by decide) rfl ?_;clear H;intro a H;rw [Xg,<- hm] at H;refine CP (m:Int) mJ KZ H wn rfl (Im (by omega) (by omega)) rfl ?_;clear H;intro a H;refine kH H (aj K7 rfl (SR fun _ K8=>Rm rfl (Rm rfl (Rm rfl (Ri gU iw rfl rfl ?_)))));clear H K7;intro a H;refine aV iw (cs:=[_,_]) H wn rfl rfl (fun j v hj=>H.hp.aI (hrow j v hj)) rfl ?_;clear H;intro a H;refine kH H (Rm rfl ?_);clear H;intro a H;refine jJ H wn rfl rfl (aaW _ _ H.ro l[m] t) rfl ?_;clear H;rintro v30 BG a w rfl E9 H;refine kH H (Rc rfl (Kz K8 (Cd rfl ?_ ?_))) <;> clear H K8
  ·intro h31 a H
   try have p31:=dT h31
   rw [av (by simpa using PN.1 p31)] at heq;refine kP H (SC (Rm rfl (Rd rfl (Ra rfl ?_))));clear H;intro a H;refine aB ?_;refine dJ ((m+1,j,f - 1,BG)) (by exact H.sub ⟨rfl,rfl,rfl,rfl,rfl,rfl,ay⟩) ?_
   (try dsimp only);exact aaq
  intro h31 a H
  try have p31:=dF h31
  rw [aD (by simpa using fun h=>p31 (PN.2 h))] at heq;refine kP H (SC (Rm rfl (Ra rfl ?_)));clear H;intro a H;refine aB ?_;refine dJ ((i,m,f - 1,BG)) (by exact H.sub ⟨rfl,rfl,rfl,rfl,rfl,rfl,ay⟩) ?_
  (try dsimp only);exact aar
 intro cu a H
 try have lN:=dF cu
 refine eu ?_;refine K4 _ _ ?_;clear K4;refine bR (fun _ K9=>?_);rw [Xf (by omega)] at heq;refine kP H (SC (Rm rfl (Rm rfl (Rm rfl (Rc rfl (Rm rfl (Sp 39 rfl ?_ ?_))))))) <;> clear H
 ·intro jI a H
  try have p39:=dT jI
  have hil:i < l.length:=by omega
  obtain ⟨b,o,rfl,hrow⟩:=IJ CB hil;refine kH H (YM jI rfl (YM jI rfl (YM jI rfl (YI gU iw jI rfl rfl ?_))));clear H;intro a H;refine aV iw (cs:=[_,_]) H (wg H rfl rfl jI) rfl rfl (fun j v hj=>H.hp.aI (hrow j v hj)) rfl ?_;clear H;intro a H;refine kH H (YM jI rfl ?_);clear H;intro a H;refine jJ H (wg H rfl rfl jI) rfl rfl (aaW _ _ H.ro l[i] t) rfl ?_;clear H;rintro v46 Zx a w rfl adW H;refine kH H (YC jI rfl (Pt jI rfl (Ra rfl (bG K9 rfl ?_))));clear H K9;intro a H;refine dw ?_;refine (fJ H results260 (.cons (bB H rfl) (.cons (bB H rfl) .nil)) ?_).1;exact aas
 intro jI a H
 try have p39:=dF jI
 refine kH H (aM jI rfl (aM jI rfl (aJ jI rfl (Pf jI rfl (Ra rfl (bG K9 rfl ?_))))));clear H K9;intro a H;refine dw ?_;refine (fJ H results260 (.cons (bB H rfl) (.cons (bB H rfl) .nil)) ?_).1;exact aat
theorem amH:aQ 250:=aR func250 rfl
theorem amI:aQ 251:=aR func251 rfl
theorem mV:prog.underlying 41=some (.slice 3):=by kernel_rfl
theorem amK:aQ 254:=aR func254 rfl
theorem aci:aQ 226:=aR func226 rfl
theorem amv:aQ 228:=aR func228 rfl
theorem aov:dX prog 296 1 1:=⟨by kernel_rfl⟩
theorem amu:aQ 227:=aR func227 rfl
theorem aow:dX prog 296 2 2:=⟨by kernel_rfl⟩
theorem aox:dX prog 296 3 3:=⟨by kernel_rfl⟩
def kz:kQ:=⟨0,0,0,0,0,⟨#[]⟩⟩
def Iq:List Int:=Ir.map kQ.num
def vQ (k:Int):kQ × Bool:=if nT Iq k=true then (Ir.getD (gQ Iq k) kz,true) else (kz,false)
theorem find_spec (G:GH) (w0:World) (hG:Hold G w0) (k:Int):Calls prog 226 #[vi k] w0 (bE w0 G fun u G'=>u=.tuple #[.agg (vQ k).1.cells.toArray,.bool (vQ k).2]):=by
 refine eN [(0,_)] func226 rfl ntmps226 rfl rfl hG ?_;intro a H;refine dz (fun _ K1=>?_);refine dP wu H wn rfl ?_;clear H;intro b2 a w hb2 H;refine kH H (aj K1 rfl (SR fun _ K2=>?_));clear H K1;intro a H;refine s_call amH H wn rfl (asB _ _ H.ro) rfl ?_;clear H;rintro v7 G7 a w hv7 yR H;obtain ⟨A,c,rfl,hc1,hc2,-⟩:=hv7.slice;rw [bQ] at *;refine kH H (aj K2 rfl (SR fun _ K3=>Rm rfl (Rm rfl ?_)));clear H K2;intro a H;refine s_call amI H wn rfl (aiR _ _ H.ro Ir k _ hv7 (by decide)) rfl ?_;clear H;rintro v11 uG a w rfl DU H;have hv7:=hv7.mono DU;have hkn:Ir.map kQ.num=Iq:=rfl;rw [hkn] at H;obtain ⟨n,hn⟩:∃ n,n=gQ Iq k:=⟨_,rfl⟩;obtain ⟨q,hq⟩:∃ q,q=nT Iq k:=⟨_,rfl⟩;rw [<- hn,<- hq] at H;refine kH H (Rm rfl ?_);clear H;intro a H;(iterate 2 refine mh H wn rfl rfl rfl ?_;clear H;intro a H);refine kH H (Ra rfl (aj K3 rfl (SQ fun _ K4=>SR fun _ K5=>Rm rfl (Rn rfl (Kz K5 (Cd rfl ?_ ?_)))))) <;> clear H K3 K5
 ·intro jN a H
  refine dz (fun _ K6=>?_);refine jF aha [_,_,_,_,_,_] H wn rfl rfl rfl rfl ?_;clear H;intro a H;refine bK wu 0 (vs:=[_,_,_,_,_,_]) H wn rfl ?_;clear H;intro w H;refine kH H (aj K6 rfl ?_);clear H K6;intro a H;refine dw ?_;refine (fJ H results226 (.cons (mI wu (cs:=[_,_,_,_,_,_]) H rfl rfl (H.hp.cB 0 rfl rfl)) (.cons (bB H rfl) .nil)) ?_).1;exact H.rt (by rw [vQ,av (by rw [<- hq];simpa using jN)];rfl)
 intro jN a H
 try have tF:=dF jN
 have hlt:n < Ir.length:=by have:=MS (ks:=Iq) (t:=k) (by rw [<- hq];simpa using jN);rw [<- hn] at this;simpa [Iq] using this
 obtain ⟨b,o,rfl,hrow⟩:=Xw hv7 hlt;refine kP H (Kc K4 (SR fun _ K7=>Rm rfl (Rm rfl (Ri Oh wu rfl rfl ?_))));clear H K4;intro a H;refine aV wu (cs:=[_,_,_,_,_,_]) H wn rfl rfl (fun j v hj=>H.hp.aI (hrow j v hj)) rfl ?_;clear H;intro a H;refine bK wu 0 (vs:=[_,_,_,_,_,_]) H wn rfl ?_;clear H;intro w H;refine kH H (aj K7 rfl ?_);clear H K7;intro a H;refine dw ?_;refine (fJ H results226 (.cons (mI wu (cs:=[_,_,_,_,_,_]) H rfl rfl (H.hp.cB 0 rfl rfl)) (.cons (bB H rfl) .nil)) ?_).1;exact H.rt (by rw [vQ,aD (by rw [<- hq];simpa using jN),<- hn,List.getD_eq_getElem?_getD,eD hlt];rfl)
def Ay (e:Int):List Int:=if e=1∨e=4∨e=5∨e=6 then [1] else if e=2 then [1,2] else if e=3 then [3] else if e=7 then [6] else if e=9 then [4] else if e=10 then [5] else []
theorem Fu (G:GH) (A:List Int):dK G 1 (A.map fun k=>[li k]) (A.map vi):=by
 refine ⟨A.map fun k=>[vi k],?_,by simp,fun j r cs hr hc=>?_⟩
 ·induction A with
  | nil=>rfl
  | cons a A ih=>simpa using ih
 rw [tT] at hr hc
 cases h:A[j]? with
 | none=>rw [h] at hr;cases hr
 | some x =>
  rw [h] at hr hc
  cases hr;cases hc
  exact ⟨by simp only [bD];exact ⟨_,_,rfl,by simp [ak,Value.oneCell'],rfl⟩,rfl⟩
theorem Cb {p:Prop} (h:p:=by
 first
  | exact H.rt (by rw [Ay,dL,dL,dL,dL,dL,dL];exact ak.oQ rfl (by decide))
  | (obtain ⟨Gz,hmz,hbz,H⟩:=H.fO
     first
       | exact H.rt (by rw [Ay,nE];exact ak.vZ (n:=1) (cap:=1) hbz rfl (eP _) (show 1<=maxLen by decide) rfl (Fu _ [1]))
       | exact H.rt (by rw [Ay,dL,nE];exact ak.vZ (n:=2) (cap:=2) hbz rfl (eP _) (show 2<=maxLen by decide) rfl (Fu _ [1,2]))
       | exact H.rt (by rw [Ay,dL,dL,nE];exact ak.vZ (n:=1) (cap:=1) hbz rfl (eP _) (show 1<=maxLen by decide) rfl (Fu _ [3]))
       | exact H.rt (by rw [Ay,dL,dL,dL,nE];exact ak.vZ (n:=1) (cap:=1) hbz rfl (eP _) (show 1<=maxLen by decide) rfl (Fu _ [6]))
       | exact H.rt (by rw [Ay,dL,dL,dL,dL,nE];exact ak.vZ (n:=1) (cap:=1) hbz rfl (eP _) (show 1<=maxLen by decide) rfl (Fu _ [4]))
       | exact H.rt (by rw [Ay,dL,dL,dL,dL,dL,nE];exact ak.vZ (n:=1) (cap:=1) hbz rfl (eP _) (show 1<=maxLen by decide) rfl (Fu _ [5])))):p:=h
theorem aoV (G:GH) (w0:World) (hG:Hold G w0) (e:Int):Calls prog 228 #[vi e] w0 (bE w0 G fun u G'=>ak G' (.sl 1 ((Ay e).map fun k=>[li k])) u):=by
  refine eN [(0,_)] func228 rfl ntmps228 rfl rfl hG ?_;intro a H;refine kP H (SR fun _ K1=>aj K1 rfl (SQ fun _ K2=>SR fun _ K3=>Rm rfl (Kz K3 (SB (SQ fun _ K4=>SR fun _ K5=>Rc rfl (aj K5 rfl (Cd rfl ?_ ?_))))))) <;> clear H K1 K3 K5
  · intro h4 a H
    try have p4:=dT h4
    refine kP H (Kc K4 (Ct rfl h4 (SR fun _ K6=>?_)));clear H K4;intro a H;refine iV mV aG [_] [_] H wn rfl rfl rfl rfl rfl (by intro i q h;match i,h with|0,h=>exact h|n+1,h=>simp at h) rfl rfl ?_;clear H;intro b9 a w wR H;refine kH H (aj K6 rfl ?_);clear H K6;intro a H;refine lr H results228 rfl ?_
    exact Cb
  intro h4 a H
  try have p4:=dF h4
  refine kP H (SR fun _ K7=>Rc rfl (aj K7 rfl (Cd rfl ?_ ?_))) <;> clear H K7
  · intro h4 a H
    try have p4:=dT h4
    refine kP H (Kc K4 (Ct rfl h4 (SR fun _ K8=>?_)));clear H K4;intro a H;refine iV mV aG [_] [_] H wn rfl rfl rfl rfl rfl (by intro i q h;match i,h with|0,h=>exact h|n+1,h=>simp at h) rfl rfl ?_;clear H;intro b9 a w wR H;refine kH H (aj K8 rfl ?_);clear H K8;intro a H;refine lr H results228 rfl ?_
    exact Cb
  intro h4 a H
  try have p4:=dF h4
  refine kP H (SR fun _ K9=>Rc rfl (aj K9 rfl (Cd rfl ?_ ?_))) <;> clear H K9
  · intro h4 a H
    try have p4:=dT h4
    refine kP H (Kc K4 (Ct rfl h4 (SR fun _ aS=>?_)));clear H K4;intro a H;refine iV mV aG [_] [_] H wn rfl rfl rfl rfl rfl (by intro i q h;match i,h with|0,h=>exact h|n+1,h=>simp at h) rfl rfl ?_;clear H;intro b9 a w wR H;refine kH H (aj aS rfl ?_);clear H aS;intro a H;refine lr H results228 rfl ?_
    exact Cb
  intro h4 a H
  try have p4:=dF h4
  refine kP H (SC (Rc rfl (bG K4 rfl (Cd rfl ?_ ?_)))) <;> clear H K4
  · intro h4 a H
    try have p4:=dT h4
    refine dz (fun _ bH=>?_);refine iV mV aG [_] [_] H wn rfl rfl rfl rfl rfl (by intro i q h;match i,h with|0,h=>exact h|n+1,h=>simp at h) rfl rfl ?_;clear H;intro b9 a w wR H;refine kH H (aj bH rfl ?_);clear H bH;intro a H;refine lr H results228 rfl ?_
    exact Cb
  intro h4 a H
  try have p4:=dF h4
  refine kP H (SR fun _ bT=>Rc rfl (aj bT rfl (Cd rfl ?_ ?_))) <;> clear H bT
  · intro h10 a H
    try have jd:=dT h10
    refine dz (fun _ cK=>?_);refine iV mV aG [_,_] [_,_] H wn rfl rfl rfl rfl rfl (by intro i q h;match i,h with|0,h=>exact h|1,h=>exact h|n+2,h=>simp at h) rfl rfl ?_;clear H;intro b12 a w Ka H;refine kH H (aj cK rfl ?_);clear H cK;intro a H;refine lr H results228 rfl ?_
    exact Cb
  intro h10 a H
  try have jd:=dF h10
  refine kP H (SR fun _ dB=>Rc rfl (aj dB rfl (Cd rfl ?_ ?_))) <;> clear H dB
  · intro gL a H
    try have sG:=dT gL
    refine dz (fun _ eU=>?_);refine iV mV aG [_] [_] H wn rfl rfl rfl rfl rfl (by intro i q h;match i,h with|0,h=>exact h|n+1,h=>simp at h) rfl rfl ?_;clear H;intro b15 a w apO H;refine kH H (aj eU rfl ?_);clear H eU;intro a H;refine lr H results228 rfl ?_
    exact Cb
  intro gL a H
  try have sG:=dF gL
  refine kP H (SR fun _ eX=>Rc rfl (aj eX rfl (Cd rfl ?_ ?_))) <;> clear H eX
  · intro h16 a H
    try have p16:=dT h16
    refine dz (fun _ eG=>?_);refine iV mV aG [_] [_] H wn rfl rfl rfl rfl rfl (by intro i q h;match i,h with|0,h=>exact h|n+1,h=>simp at h) rfl rfl ?_;clear H;intro b18 a w Qs H;refine kH H (aj eG rfl ?_);clear H eG;intro a H;refine lr H results228 rfl ?_
    exact Cb
  intro h16 a H
  try have p16:=dF h16
  refine kP H (SR fun _ fC=>Rc rfl (aj fC rfl (Cd rfl ?_ ?_))) <;> clear H fC
  · intro h19 a H
    try have tJ:=dT h19
    refine dz (fun _ gX=>?_);refine iV mV aG [_] [_] H wn rfl rfl rfl rfl rfl (by intro i q h;match i,h with|0,h=>exact h|n+1,h=>simp at h) rfl rfl ?_;clear H;intro b21 a w ayz H;refine kH H (aj gX rfl ?_);clear H gX;intro a H;refine lr H results228 rfl ?_
    exact Cb
  intro h19 a H
  try have tJ:=dF h19
  refine kP H (SR fun _ fM=>Rc rfl (aj fM rfl (Cd rfl ?_ ?_))) <;> clear H fM
  · intro h22 a H
    try have oW:=dT h22
    refine dz (fun _ iI=>?_);refine iV mV aG [_] [_] H wn rfl rfl rfl rfl rfl (by intro i q h;match i,h with|0,h=>exact h|n+1,h=>simp at h) rfl rfl ?_;clear H;intro b24 a w ayB H;refine kH H (aj iI rfl ?_);clear H iI;intro a H;refine lr H results228 rfl ?_
    exact Cb
  intro h22 a H
  try have oW:=dF h22
  refine kP H (Kc K2 (SR fun _ jH=>aj jH rfl ?_));clear H K2 jH;intro a H;refine lr H results228 rfl ?_
  exact Cb
theorem asj {G:GH} {l:List Int} {A:Option Addr} {n c k:Nat} (hv:ak G (.sl 1 (l.map fun k=>[li k])) (.slice A n c)) (hk:k < l.length):∃ b o,A=some ⟨b,o,none⟩∧aI G b (o+k*1)=some (vi l[k]):=by
 obtain ⟨A',c',he,_,_,hg⟩:=hv.slice
 injection he with e1 e2 e3
 subst e1;obtain ⟨b,o,cs,h1,h2,h3,h4⟩:=hg k [li l[k]] (by simp [hk])
 simp only [bD,ak] at h4
 obtain ⟨v1,_,rfl,⟨rfl,-⟩,rfl⟩:=h4;exact ⟨b,o,h1,h3 0 _ rfl⟩
theorem Jp {p:Prop} (h:p:=by
 exact ⟨lu _,rfl⟩):p:=h
theorem asc (G:GH) (w0:World) (hG:Hold G w0) (l:List Int) (t:Int) (v:ah) (hv:ak G (.sl 1 (l.map fun k=>[li k])) v) :
  Calls prog 254 #[v,vi t] w0 (bE w0 G fun u G'=>u=vi (oG (l.findIdx? fun x=>decide (t=x)))):=by
 obtain ⟨A,c,rfl,hc1,hc2,-⟩:=hv.slice;have hml:maxLen=9223372036854775807:=rfl;rw [bQ] at *;refine eN [(0,_),(1,_)] func254 rfl ntmps254 rfl rfl hG ?_;intro a H;refine kP H (SR fun _ K1=>aj K1 rfl (SQ fun _ K2=>SR fun _ K3=>Rm rfl (Rl mV rfl (Rm rfl (Kz K3 (SB ?_))))));clear H K1 K3;intro a H;skip;refine fF (ι:=Nat) (Tc:=[(0,_),(1,_),(7,_)]) (Lc:=[]) (fun gh=>[(8,vi gh)]) (fun gh=>[]) (fun gh=>G) (fun gh=>gh<=l.length∧(l.take gh).findIdx? (fun x=>decide (t=x))=none) (fun gh=>l.length - gh) (0) (by exact H.sub ⟨rfl,rfl,rfl,rfl,ay⟩) ?_ ?_
 ·exact Jp
 clear H;intro k a w hI H;obtain ⟨hk,hno⟩:=hI;dsimp only [lca,bM] at H;refine kP H (SR fun _ K4=>Rc rfl (Kz K4 (SQ fun _ K5=>Cd rfl ?_ ?_))) <;> clear H K4
 ·intro h9 a H
  try have p9:=dT h9
  have hk2:k < l.length:=by omega
  obtain ⟨b,o,rfl,hrow⟩:=asj hv hk2;refine kP H (Kc K5 (SQ fun _ K6=>SB (SR fun _ K7=>Rm rfl (aj K7 rfl (SR fun _ K8=>Rm rfl (Rm rfl (Rm rfl (Ri mV aG rfl rfl (Rg aG rfl (by assumption) ?_)))))))));clear H K5 K7;intro a H;refine kH H (Rc rfl (Kz K8 (Cd rfl ?_ ?_))) <;> clear H K8
  ·intro h16 a H
   try have p16:=dT h16
   exact kP H (SR fun _ K9=>Rm rfl (aj K9 rfl (LR results254 rfl fun H=>H.rt (by rw [Xp hk2 hno (by simpa using p16)];rfl))))
  intro h16 a H
  try have p16:=dF h16
  refine kP H (Kc K6 (SC (Rd rfl (Rm rfl ?_))));clear H K6;intro a H;refine aB ?_;refine dJ ((k+1)) (by exact H.sub ⟨rfl,rfl,rfl,rfl,ay⟩) ?_
  exact ⟨by omega,aeP hk2 hno (by simpa using p16)⟩
 intro h9 a H
 try have p9:=dF h9
 refine eu ?_;refine K2 _ _ ?_;clear K2;exact kP H (SR fun _ aS=>aj aS rfl (LR results254 rfl fun H=>H.rt (by rw [show l.take k=l from jm (by omega)] at hno;rw [hno];rfl)))
theorem aku (G:GH) (w0:World) (hG:Hold G w0) (l:List Int) (t:Int) (v:ah) (hv:ak G (.sl 1 (l.map fun k=>[li k])) v) :
  Calls prog 227 #[v,vi t] w0 (bE w0 G fun u G'=>u=.bool (decide (t∈l))):=by
 obtain ⟨A,c,rfl,hc1,hc2,-⟩:=hv.slice;rw [bQ] at *;refine eN [(0,_),(1,_)] func227 rfl ntmps227 rfl rfl hG ?_;intro a H;refine kP H (SR fun _ K1=>aj K1 rfl (SR fun _ K2=>Rm rfl (Rm rfl ?_)));clear H K1;intro a H;refine s_call amK H wn rfl (asc _ _ H.ro l t _ hv) rfl ?_;clear H;rintro v7 G7 a w rfl yR H;refine kH H (Rc rfl (aj K2 rfl ?_));clear H K2;intro a H;refine lr H results227 rfl ?_
 exact H.rt (by
  congr 1
  cases h:l.findIdx? (fun x=>decide (t=x)) with
  | none =>
   rw [List.findIdx?_eq_none_iff] at h;have:t∉l:=fun hm=>absurd (h t hm) (by simp)
   simp [oG,this]
  | some i =>
   obtain ⟨hi,he,-⟩:=List.findIdx?_eq_some_iff_getElem.1 h
   have:t∈l:=by rw [pI he];exact lC _
   simp [oG,this])
def wL (e k:Int):Bool:=(vQ k).2 && decide ((vQ k).1.J2∈Ay e)
theorem Ak {p:Prop} (h:p:=by
 exact kH H (Rm rfl fun _ H=>fin H iJ rfl)):p:=h
theorem xK {p:Prop} (h:p:=by
 exact H.rt rfl):p:=h
theorem TS {p:Prop} (h:p:=by
 exact fin H iJ (by show _=_;simp)):p:=h
theorem acU (G:GH) (w0:World) (hG:Hold G w0) (e k:Int):Calls prog 194 #[vi e,vi k] w0 (bE w0 G fun u G'=>u=.bool (wL e k)):=by
 refine eN [(0,_),(1,_)] func194 rfl ntmps194 rfl rfl hG ?_;intro a H;refine kP H (SR fun _ K1=>aj K1 rfl (SR fun _ K2=>Rm rfl ?_));clear H K1;intro a H;refine s_call aci H wn rfl (find_spec _ _ H.ro k) rfl ?_;clear H;rintro v9 G9 a w rfl yS H;dsimp only [kQ.cells] at H;refine kH H (Rm rfl ?_);clear H;intro a H;(iterate 2 refine mh H wn rfl rfl rfl ?_;clear H;intro a H);refine dP wu H wn rfl ?_;clear H;intro b5 a w hb5 H;refine bK wu 0 (vs:=[_,_,_,_,_,_]) H wn rfl ?_;clear H;intro w H;refine kH H (aj K2 rfl (SQ fun _ K3=>?_));clear H K2;intro a H
 by_cases c0:(vQ k).2=true
 ·skip
  have rG:BM (fun (dh:Nat) (v:ah) (G:GH)=>match dh with|0=>v=.bool (vQ k).2|1=>v=.bool (decide ((vQ k).2=true))|2=>v=vi e|3=>(vQ k).2=true->ak G (.sl 1 ((Ay e).map fun k=>[li k])) v|4=>v=(aK b5 1)|5=>v=vi (vQ k).1.J2|6=>v=.bool (decide ((vQ k).1.J2∈Ay e))|7=>v=.bool (wL e k)|_=>True):=by intro dh v G G' hm h;(iterate 9 (rcases dh with _|dh;(first|exact h|exact fun hf=>(h hf).mono hm)));exact trivial
  refine Am (hmx) [[],[0],[0,1],[0,1,2],[0,1],[0,1,4],ra 0 6,ra 0 7,ra 0 8] [8] (by kernel_rfl) (by kernel_rfl) _ rG H ?_ ?_
  ·clear H;refine aC ?_ ?_ ?_ ?_ (aC ?_ ?_ ?_ ?_ (bP (bU rfl) dH))
   ·refine dD [] rfl trivial (by kernel_rfl) rG rfl rfl ?_;intro aT a w G1 hG HT H fin;exact Ak
   ·refine dD [(0,12,_)] rfl ⟨fun _ _ h=>h,ay⟩ (by kernel_rfl) rG rfl rfl ?_;intro aT a w G1 hG HT H fin;refine kH H (Rm rfl ?_);clear H;intro a H;exact fin H iJ (by simp)
   ·refine dD [(1,13,_)] rfl ⟨fun _ _ h=>h,ay⟩ (by kernel_rfl) rG rfl rfl ?_;intro aT a w G1 hG HT H fin;exact kH H (YM (aH c0) rfl fun _ H=>fin H iJ rfl)
   ·refine dD [(2,14,_),(1,13,_)] rfl ⟨fun _ _ h=>h,fun _ _ h=>h,ay⟩ (by kernel_rfl) rG rfl rfl ?_;intro aT a w G1 hG HT H fin;refine s_call amv H (wg H rfl rfl (aH c0)) rfl (aoV _ _ H.ro e) rfl ?_;clear H;rintro v15 Df a w Fj DL H;exact fin H DL (by first|exact fun _=>Fj|rfl)
   ·refine dD [(1,13,_)] rfl ⟨fun _ _ h=>h,ay⟩ (by kernel_rfl) rG rfl rfl ?_;intro aT a w G1 hG HT H fin;exact kH H (YF aov (aH c0) rfl fun _ H=>fin H iJ rfl)
   ·refine dD [(4,16,_),(1,13,_)] rfl ⟨fun _ _ h=>h,fun _ _ h=>h,ay⟩ (by kernel_rfl) rG rfl rfl ?_;intro aT a w G1 hG HT H fin;exact kH H (YO aG 0 (aH c0) rfl fun _ H=>fin H iJ rfl)
   ·intro aT a w G1 _ aP hc hG HT hv;have H:=HT;clear aP;obtain ⟨u15,arI,Fj⟩:=hv 3 15 (hc 3 (by decide)) rfl;(try dsimp only at Fj);have H:=H.jC arI;have H:=H.aN (hv 5 17 (hc 5 (by decide)) rfl) rfl;have H:=H.aN (hv 1 13 (hc 1 (by decide)) rfl) rfl;have Hb:=H.full;have H:=Hb;clear hc;refine s_call amu H (wg H rfl rfl (aH c0)) rfl (aku _ _ H.ro _ _ _ (Fj c0)) rfl ?_;clear H;rintro v18 Zq a w rfl aoZ H;refine aB ⟨rfl,?_⟩;exact uT (by kernel_rfl) rG rfl rfl HT Hb hG hv aoZ (rfl) H
   refine dD [(1,13,_),(6,18,_)] rfl ⟨fun _ _ h=>h,fun _ _ h=>h,ay⟩ (by kernel_rfl) rG rfl rfl ?_;intro aT a w G1 hG HT H fin;refine kH H (Pt (aH c0) rfl ?_);clear H;intro a H;exact fin H iJ (by unfold wL;simp_all)
  clear H;intro a w G DN H hv;have H:=H.aN (hv 7 19 rfl rfl) rfl;clear hv;refine kH H (Ra rfl ?_);clear H;intro a H;refine aB ⟨rfl,?_⟩;refine K3 _ _ ?_;clear K3;refine lr H results194 rfl ?_;exact xK
 skip;refine dI hmx [[],[0],[0,1],[0,1,2],[0,1],[0,1,4],ra 0 6,ra 0 7,ra 0 8] [8] (by kernel_rfl) [_,.bool (decide ((vQ k).2=true)),undef,undef,undef,undef,undef,.bool (wL e k)] H (aC (Z0 rfl (Rm rfl)) ?_ (aZ 1 (aY c0) rfl rfl) ?_ (aC (aZ 1 (aY c0) rfl rfl) (aZ 1 (aY c0) rfl rfl) (aZ 1 (aY c0) rfl rfl) ?_ (bP (bU rfl) dH))) ?_
 ·refine eY 0 12 rfl rfl fun _ a w G1 hG HT H fin=>?_;refine kH H (Rm rfl ?_);clear H;intro a H;exact TS
 ·intro aT a w G1 _ aP hc hG HT hv;have H:=HT;clear aP;have H:=H.aN (hv 2 14 (hc 2 (by decide)) rfl) rfl;have H:=H.aN (hv 1 13 (hc 1 (by decide)) rfl) rfl;have Hb:=H.full;have H:=Hb;clear hc;refine kH H (Ks (aY c0) rfl ?_);clear H;intro a H;refine aB ⟨rfl,?_⟩;exact uT (by kernel_rfl) (fun _ _ _ _ _ h=>h) rfl rfl HT Hb hG hv (fun _ _ h=>h) (by first|exact fun _=>Fj|rfl) H
 ·refine dO 1 13 6 18 rfl rfl fun _ a w G1 hG HT H fin=>?_;refine kH H (Pf (aY c0) rfl ?_);clear H;intro a H;exact fin H iJ (by show _=_;unfold wL;simp_all)
 clear H;intro a w G DN H hv;have H:=H.aN (hv 7 19 rfl rfl) rfl;clear hv;refine kH H (Ra rfl ?_);clear H;intro a H;refine aB ⟨rfl,?_⟩;refine K3 _ _ ?_;clear K3;refine lr H results194 rfl ?_;exact xK
def uN (k v:Int):Int:=if (vQ k).2=false then 4 else if v < (vQ k).1.low∨(vQ k).1.high < v then 5 else 0
theorem Uq (G:GH) (w0:World) (hG:Hold G w0) (k x:Int):Calls prog 195 #[vi k,vi x] w0 (bE w0 G fun u G'=>u=vi (uN k x)):=by
 refine eN [(0,_),(1,_)] func195 rfl ntmps195 rfl rfl hG ?_;intro a H;refine kP H (SR fun _ K1=>aj K1 rfl (SR fun _ K2=>Rm rfl ?_));clear H K1;intro a H;refine s_call aci H wn rfl (find_spec _ _ H.ro k) rfl ?_;clear H;rintro v9 G9 a w rfl yS H;dsimp only [kQ.cells] at H;refine kH H (Rm rfl ?_);clear H;intro a H;(iterate 2 refine mh H wn rfl rfl rfl ?_;clear H;intro a H);refine dP wu H wn rfl ?_;clear H;intro b5 a w hb5 H;refine bK wu 0 (vs:=[_,_,_,_,_,_]) H wn rfl ?_;clear H;intro w H;refine kH H (aj K2 rfl (SQ fun _ K3=>SB (SR fun _ K4=>Rm rfl (Rn rfl (aj K4 rfl (Cd rfl ?_ ?_)))))) <;> clear H K2 K4
 ·intro h12 a H
  try have rM:=dT h12
  exact kP H (SR fun _ K5=>aj K5 rfl (LR results195 rfl fun H=>H.rt (by unfold uN;simp_all)))
 intro h12 a H
 try have rM:=dF h12
 refine kP H (SR fun _ K6=>Rm rfl (bO aow aG 0 rfl rfl (Rc rfl (Rm rfl (Sp 20 rfl ?_ ?_))))) <;> clear H
 ·intro h20 a H
  try have II:=dT h20
  exact kH H (aJ h20 rfl (aJ h20 rfl (Pt h20 rfl (aj K6 rfl (Ct rfl rfl (SR fun _ K7=>aj K7 rfl (LR results195 rfl fun H=>H.rt (by unfold uN;simp_all))))))))
 intro h20 a H
 try have II:=dF h20
 refine kH H (YM h20 rfl (YF aox h20 rfl (YO aG 0 h20 rfl (YC h20 rfl (Pf h20 rfl (aj K6 rfl (Cd rfl ?_ ?_))))))) <;> clear H K6
 ·intro jN a H
  try have tF:=dT jN
  exact kP H (SR fun _ K8=>aj K8 rfl (LR results195 rfl fun H=>H.rt (by unfold uN;simp_all)))
 intro jN a H
 try have tF:=dF jN
 exact kP H (Kc K3 (SR fun _ K9=>aj K9 rfl (LR results195 rfl fun H=>H.rt (by unfold uN;simp_all))))
theorem acf:aQ 194:=aR func194 rfl
theorem Qb:dX prog 187 1 1:=⟨by kernel_rfl⟩
theorem U3:aQ 195:=aR func195 rfl
theorem amM:aQ 260:=aR func260 rfl
theorem U6:aQ 240:=aR func240 rfl
def Fy (q:Option Int) (k:Int):Bool:=match q with|some j=>decide (k < j)|none=>false
def zH (e:Int):Option Int->List aL->Int
 | _,[]=>0
 | q,p :: r=>if wL e p.key=false then 4 else if q=some p.key then 7 else if Fy q p.key=true then 6 else if uN p.key p.value=0 then zH e (some p.key) r else uN p.key p.value
def Bq (l:List aL) (k:Nat):Option Int:=if k=0 then none else l[k - 1]?.map aL.key
def qW (e:Int) (l:List aL):Int:=if e < 1∨10 < e then 3 else zH e none l
theorem ajO {e:Int} {l:List aL} {k:Nat} (h:k < l.length):zH e (Bq l k) (l.drop k)=if wL e l[k].key=false then 4 else if Bq l k=some l[k].key then 7 else if Fy (Bq l k) l[k].key=true then 6 else if uN l[k].key l[k].value=0 then zH e (Bq l (k+1)) (l.drop (k+1)) else uN l[k].key l[k].value:=by
 rw [rU h,zH]
 have:Bq l (k+1)=some l[k].key:=by rw [Bq,dL,Nat.add_sub_cancel,eD h];rfl
 rw [this]
theorem RD {l:List aL} {k:Nat} (h:k=0):Bq l k=none:=aD h
theorem Gn {p:Prop} (h:p:=by
 first
  | exact H.rt (cO vi (by rw [av (by simpa using p61)] at heq;rw [qW,dL];exact heq))
  | exact H.rt (cO vi (by rw [aD (by simpa using h21)] at heq;rw [qW,dL];exact heq))
  | exact H.rt (cO vi (by rw [qW,dL];exact heq))
  | exact H.rt (cO vi (by rw [qW,dL,<- heq,show l.drop k=[] from tX (by omega)];rfl))
  | exact H.rt (cO vi (by rw [qW,nE]))):p:=h
theorem EF {p:Prop} (h:p:=by
 exact ⟨lu _,rfl,fun _ _ h=>h⟩):p:=h
theorem qF {p:Prop} (h:p:=by
 exact fin H iJ (by show _=_;first|rfl|exact cO vi (by omega))):p:=h
theorem Ph {p:Prop} (h:p:=by
 exact ⟨by omega,h.symm⟩):p:=h
theorem Pj {p:Prop} (h:p:=by
 exact ⟨by omega,pI h⟩):p:=h
theorem aau {p:Prop} (h:p:=by
 exact ⟨heq,fun b o h=>tq b o (qy b o (Cx b o h))⟩):p:=h
theorem afW (G:GH) (w0:World) (hG:Hold G w0) (e:Int) (l:List aL) (v:ah) (hv:ak G (.sl 2 (l.map aL.dat)) v) :
  Calls prog 129 #[vi e,v] w0 (bE w0 G fun u G'=>u=vi (qW e l)):=by
 obtain ⟨A,c,rfl,hc1,hc2,-⟩:=hv.slice;have hml:maxLen=9223372036854775807:=rfl;rw [bQ] at *;refine eN [(0,_),(1,_)] func129 rfl ntmps129 rfl rfl hG ?_;intro a H;refine kP H (SR fun _ K1=>aj K1 rfl (SQ fun _ K2=>SR fun _ K3=>Rm rfl (Rc rfl (Rm rfl (Sp 10 rfl ?_ ?_))))) <;> clear H K1
 ·intro h10 a H
  try have jd:=dT h10
  refine kH H (aJ h10 rfl (Pt h10 rfl (Kz K3 (Ct rfl rfl (SR fun _ K4=>aj K4 rfl ?_)))));clear H K3 K4;intro a H;refine lr H results129 rfl ?_
  exact Gn
 intro h10 a H
 try have jd:=dF h10
 refine kH H (YM h10 rfl (YC h10 rfl (Pf h10 rfl (Kz K3 (Cd rfl ?_ ?_))))) <;> clear H K3
 ·intro gL a H
  try have sG:=dT gL
  refine kP H (SR fun _ K5=>aj K5 rfl ?_);clear H K5;intro a H;refine lr H results129 rfl ?_
  exact Gn
 intro gL a H
 try have sG:=dF gL
 refine kP H (Kc K2 (SQ fun _ K6=>SR fun _ K7=>Rm rfl (Rl gU rfl (Rm rfl (Kz K7 (SB ?_))))));clear H K2 K7;intro a H;skip;refine fF (ι:=Nat × GH) (Tc:=[(0,_),(1,_),(14,_),(15,_)]) (Lc:=[]) (fun gh=>[(16,vi gh.1)]) (fun gh=>[]) (fun gh=>gh.2) (fun gh=>gh.1<=l.length∧zH e (Bq l gh.1) (l.drop gh.1)=zH e none l∧(∀ b o,G b=some o->gh.2 b=some o)) (fun gh=>l.length - gh.1) ((0,G)) (by exact H.sub ⟨rfl,rfl,rfl,rfl,rfl,ay⟩) ?_ ?_
 ·exact EF
 clear H;rintro ⟨k,g⟩ a w hI H;dsimp only at hI H;obtain ⟨hk,heq,hgm⟩:=hI;dsimp only [lca,bM] at H;refine kP H (SR fun _ K8=>Rc rfl (Kz K8 (SQ fun _ K9=>Cd rfl ?_ ?_))) <;> clear H K8
 ·intro cu a H
  try have lN:=dT cu
  have hk2:k < l.length:=by omega
  have CB:=hv.mono hgm;obtain ⟨b,o,rfl,hrow⟩:=IJ CB hk2
  obtain ⟨pk,hpk⟩:∃ pk,0 < k->aI g b (o+(k - 1)*2+0)=some (vi pk)∧Bq l k=some pk:=by
   by_cases h0:0 < k
   ·obtain ⟨b',o',he,hr'⟩:=IJ CB (show k - 1 < l.length by omega)
    injection he with he
    injection he with e1 e2 e3
    subst e1;subst e2;exact ⟨_,fun _=>⟨hr' 0 _ rfl,by rw [Bq,dL,eD (by omega)];rfl⟩⟩
   exact ⟨0,fun h=>absurd h h0⟩
  rw [ajO hk2] at heq;have ayR:=heq;refine kP H (Kc K9 (SQ fun _ aS=>SB (SR fun _ bH=>Rm rfl (Ri gU iw rfl rfl ?_))));clear H K9;intro a H;refine aV iw (cs:=[_,_]) H wn rfl rfl (fun j v hj=>H.hp.aI (hrow j v hj)) rfl ?_;clear H;intro a H;refine dP iw H wn rfl ?_;clear H;intro b6 a w hb6 H;refine kH H (Ra rfl ?_);clear H;intro a H;refine bK iw 0 (vs:=[_,_]) H wn rfl ?_;clear H;intro w H;refine bH _ _ ?_;clear bH;refine uf (ι:=GH) (Tc:=[(0,_),(1,_),(6,_),(14,_),(15,_),(16,_)]) (Lc:=[(_,_)]) (fun gh=>[]) (fun gh=>[]) (fun gh=>gh) (fun gh=>(if uN l[k].key l[k].value=0 then zH e (Bq l (k+1)) (l.drop (k+1)) else uN l[k].key l[k].value)=zH e none l∧(∀ b o,g b=some o->gh b=some o)) (by exact H.sub ⟨rfl,rfl,rfl,rfl,rfl,rfl,ay⟩) ?_ ?_
  ·skip;refine kP H (SB (SR fun _ bT=>Rm rfl (bO xP aG 0 rfl rfl ?_)));clear H;intro a H;refine s_call acf H wn rfl (acU _ _ H.ro e l[k].key) rfl ?_;clear H;rintro v25 OP a w rfl Cx H;replace hrow:=fun j u hj=>aF Cx (hrow j u hj);refine kH H (Rn rfl (aj bT rfl (Cd rfl ?_ ?_))) <;> clear H bT
   ·intro h21 a H
    try have Ec:=dT h21
    refine kP H (SR fun _ cK=>aj cK rfl ?_);clear H cK;intro a H;refine lr H results129 rfl ?_
    exact Gn
   intro h21 a H
   try have Ec:=dF h21
   rw [av (by simpa using h21)] at heq;refine bR (fun _ dB=>?_)
   by_cases c0:0 < (k:Int)
   ·skip
    by_cases c1:l[k].key=pk
    ·skip;refine dI hmx [[],[0],[0,1],[0,1,2],ra 0 4,[0,1,2],[0,1,2],[0,1,2,6],[0,1,2,5,6,7],[0,1,2,5,6,7,8],[0,1,2,5,6,7,8,9],ra 0 11,ra 0 12,ra 0 13] [13] (by kernel_rfl) [_,_,_,_,vi l[k].key,_,_,vi ((k - 1:Nat):Int),_,_,_,_,_] H (aC (Z0 rfl (Rm rfl)) (Z1 0 28 rfl (Rc rfl)) (Z1 1 29 rfl (Rm rfl)) (Z1 2 30 rfl (YF xP (aH c0) rfl)) (aC (Z2 3 31 2 30 rfl (YO aG 0 (aH c0) rfl)) (Z1 2 30 rfl (YM (aH c0) rfl)) (Z1 2 30 rfl (YM (aH c0) rfl)) ?_ (aC (Z3 5 33 7 35 2 30 rfl (YI gU iw (aH c0) rfl rfl)) (Z2 8 36 2 30 rfl (YF xP (aH c0) rfl)) (X2 9 37 2 30 rfl fun hG=>YR aG (aH c0) rfl (aF hG (aF Cx (hpk (by omega)).1))) (Z3 4 32 10 38 2 30 rfl (YC (aH c0) rfl)) (bP (Z2 2 30 11 39 rfl (Pt (aH c0) rfl)) (bP (bU rfl) dH))))) ?_
     ·refine dO 6 34 2 30 rfl rfl fun _ a w G1 hG HT H fin=>?_;refine nL _ H (wg H rfl rfl (aH c0)) rfl rfl rfl (by omega) (by omega) rfl ?_;clear H;intro a H;exact qF
     clear H;intro a w G qy H hv;have H:=H.aN (hv 12 40 rfl rfl) rfl;clear hv;refine kH H (Ra rfl ?_);clear H;intro a H;refine aB ⟨rfl,?_⟩;refine dB _ _ ?_;clear dB;refine Ce H rfl (aH c1) ?_;refine bR (fun _ eU=>?_);rw [aD (by rw [(hpk (by omega)).2,c1])] at heq;refine kP H (SC (bG eU rfl ?_));clear H eU;intro a H;refine lr H results129 rfl ?_
     exact Gn
    skip;refine dI hmx [[],[0],[0,1],[0,1,2],ra 0 4,[0,1,2],[0,1,2],[0,1,2,6],[0,1,2,5,6,7],[0,1,2,5,6,7,8],[0,1,2,5,6,7,8,9],ra 0 11,ra 0 12,ra 0 13] [13] (by kernel_rfl) [_,_,_,_,vi l[k].key,_,_,vi ((k - 1:Nat):Int),_,_,_,_,_] H (aC (Z0 rfl (Rm rfl)) (Z1 0 28 rfl (Rc rfl)) (Z1 1 29 rfl (Rm rfl)) (Z1 2 30 rfl (YF xP (aH c0) rfl)) (aC (Z2 3 31 2 30 rfl (YO aG 0 (aH c0) rfl)) (Z1 2 30 rfl (YM (aH c0) rfl)) (Z1 2 30 rfl (YM (aH c0) rfl)) ?_ (aC (Z3 5 33 7 35 2 30 rfl (YI gU iw (aH c0) rfl rfl)) (Z2 8 36 2 30 rfl (YF xP (aH c0) rfl)) (X2 9 37 2 30 rfl fun hG=>YR aG (aH c0) rfl (aF hG (aF Cx (hpk (by omega)).1))) (Z3 4 32 10 38 2 30 rfl (YC (aH c0) rfl)) (bP (Z2 2 30 11 39 rfl (Pt (aH c0) rfl)) (bP (bU rfl) dH))))) ?_
    ·refine dO 6 34 2 30 rfl rfl fun _ a w G1 hG HT H fin=>?_;refine nL _ H (wg H rfl rfl (aH c0)) rfl rfl rfl (by omega) (by omega) rfl ?_;clear H;intro a H;exact qF
    clear H;intro a w G qy H hv;have H:=H.aN (hv 12 40 rfl rfl) rfl;clear hv;refine kH H (Ra rfl ?_);clear H;intro a H;refine aB ⟨rfl,?_⟩;refine dB _ _ ?_;clear dB;refine sS H rfl (aY c1) ?_;refine bR (fun _ eX=>?_)
    have q1:¬ (0 < (k:Int)∧l[k].key=pk):=by first|exact fun h=>c1 h.2|exact fun h=>c0 h.1
    rw [av (fun h=>q1 (by
     by_cases h0:0 < k
     ·rw [(hpk h0).2] at h
      injection h with h
      exact Ph
     rw [RD (by omega)] at h
     cases h))] at heq
    by_cases c3:l[k].key < pk
    ·skip;refine dI hmx [[],[0],[0,1],[0,1,2],ra 0 4,[0,1,2],[0,1,2],[0,1,2,6],[0,1,2,5,6,7],[0,1,2,5,6,7,8],[0,1,2,5,6,7,8,9],ra 0 11,ra 0 12,ra 0 13] [13] (by kernel_rfl) [_,_,_,_,vi l[k].key,_,_,vi ((k - 1:Nat):Int),_,_,vi pk,_,_] H (aC (Z0 rfl (Rm rfl)) (Z1 0 42 rfl (Rc rfl)) (Z1 1 43 rfl (Rm rfl)) (Z1 2 44 rfl (YF xP (aH c0) rfl)) (aC (Z2 3 45 2 44 rfl (YO aG 0 (aH c0) rfl)) (Z1 2 44 rfl (YM (aH c0) rfl)) (Z1 2 44 rfl (YM (aH c0) rfl)) ?_ (aC (Z3 5 47 7 49 2 44 rfl (YI gU iw (aH c0) rfl rfl)) (Z2 8 50 2 44 rfl (YF xP (aH c0) rfl)) ?_ (Z3 4 46 10 52 2 44 rfl (YC (aH c0) rfl)) (bP (Z2 2 44 11 53 rfl (Pt (aH c0) rfl)) (bP (bU rfl) dH))))) ?_
     ·refine dO 6 48 2 44 rfl rfl fun _ a w G1 hG HT H fin=>?_;refine nL _ H (wg H rfl rfl (aH c0)) rfl rfl rfl (by omega) (by omega) rfl ?_;clear H;intro a H;exact qF
     ·refine dO 9 51 2 44 rfl rfl fun _ a w G1 hG HT H fin=>?_;refine rO aG H (wg H rfl rfl (aH c0)) rfl (H.hp.aI (aF hG (aF qy (aF Cx (hpk (by omega)).1)))) rfl ?_;clear H;intro a H;exact dZ
     clear H;intro a w G tq H hv;have H:=H.aN (hv 12 54 rfl rfl) rfl;clear hv;refine kH H (Ra rfl ?_);clear H;intro a H;refine aB ⟨rfl,?_⟩;refine eX _ _ ?_;clear eX;refine Ce H rfl (aH c3) ?_;refine bR (fun _ eG=>?_);rw [aD (by rw [(hpk (by omega)).2];exact aH c3)] at heq;refine kP H (SC (bG eG rfl ?_));clear H eG;intro a H;refine lr H results129 rfl ?_
     exact Gn
    skip;refine dI hmx [[],[0],[0,1],[0,1,2],ra 0 4,[0,1,2],[0,1,2],[0,1,2,6],[0,1,2,5,6,7],[0,1,2,5,6,7,8],[0,1,2,5,6,7,8,9],ra 0 11,ra 0 12,ra 0 13] [13] (by kernel_rfl) [_,_,_,_,vi l[k].key,_,_,vi ((k - 1:Nat):Int),_,_,vi pk,_,_] H (aC (Z0 rfl (Rm rfl)) (Z1 0 42 rfl (Rc rfl)) (Z1 1 43 rfl (Rm rfl)) (Z1 2 44 rfl (YF xP (aH c0) rfl)) (aC (Z2 3 45 2 44 rfl (YO aG 0 (aH c0) rfl)) (Z1 2 44 rfl (YM (aH c0) rfl)) (Z1 2 44 rfl (YM (aH c0) rfl)) ?_ (aC (Z3 5 47 7 49 2 44 rfl (YI gU iw (aH c0) rfl rfl)) (Z2 8 50 2 44 rfl (YF xP (aH c0) rfl)) ?_ (Z3 4 46 10 52 2 44 rfl (YC (aH c0) rfl)) (bP (Z2 2 44 11 53 rfl (Pt (aH c0) rfl)) (bP (bU rfl) dH))))) ?_
    ·refine dO 6 48 2 44 rfl rfl fun _ a w G1 hG HT H fin=>?_;refine nL _ H (wg H rfl rfl (aH c0)) rfl rfl rfl (by omega) (by omega) rfl ?_;clear H;intro a H;exact qF
    ·refine dO 9 51 2 44 rfl rfl fun _ a w G1 hG HT H fin=>?_;refine rO aG H (wg H rfl rfl (aH c0)) rfl (H.hp.aI (aF hG (aF qy (aF Cx (hpk (by omega)).1)))) rfl ?_;clear H;intro a H;exact dZ
    clear H;intro a w G tq H hv;have H:=H.aN (hv 12 54 rfl rfl) rfl;clear hv;refine kH H (Ra rfl ?_);clear H;intro a H;refine aB ⟨rfl,?_⟩;refine eX _ _ ?_;clear eX;refine sS H rfl (aY c3) ?_;refine iG ?_;refine ⟨_,by exact H.sub ⟨rfl,rfl,rfl,rfl,rfl,rfl,ay⟩,?_⟩
    have q2:¬ (0 < (k:Int)∧l[k].key < pk):=by first|exact fun h=>c3 h.2|exact fun h=>c0 h.1
    rw [av (fun h=>q2 (by
     by_cases h0:0 < k
     ·rw [(hpk h0).2] at h;exact Pj
     rw [RD (by omega)] at h
     cases h))] at heq
    exact aau
   skip;refine dI hmx [[],[0],[0,1],[0,1,2],ra 0 4,[0,1,2],[0,1,2],[0,1,2,6],[0,1,2,5,6,7],[0,1,2,5,6,7,8],[0,1,2,5,6,7,8,9],ra 0 11,ra 0 12,ra 0 13] [13] (by kernel_rfl) [_,_,_,undef,undef,undef,undef,undef,undef,undef,undef,undef,_] H (aC (Z0 rfl (Rm rfl)) (Z1 0 28 rfl (Rc rfl)) (Z1 1 29 rfl (Rm rfl)) (aZ 2 (aY c0) rfl rfl) (aC (aZ 2 (aY c0) rfl rfl) (aZ 2 (aY c0) rfl rfl) (aZ 2 (aY c0) rfl rfl) (aZ 2 (aY c0) rfl rfl) (aC (aZ 2 (aY c0) rfl rfl) (aZ 2 (aY c0) rfl rfl) (aZ 2 (aY c0) rfl rfl) (aZ 2 (aY c0) rfl rfl) (bP (Z2 2 30 11 39 rfl (Pf (aY c0) rfl)) (bP (bU rfl) dH))))) ?_
   clear H;intro a w G qy H hv;have H:=H.aN (hv 12 40 rfl rfl) rfl;clear hv;refine kH H (Ra rfl ?_);clear H;intro a H;refine aB ⟨rfl,?_⟩;refine dB _ _ ?_;clear dB;refine sS H rfl rfl ?_;refine bR (fun _ fC=>?_)
   have q1:¬ (0 < (k:Int)∧l[k].key=pk):=by first|exact fun h=>c1 h.2|exact fun h=>c0 h.1
   rw [av (fun h=>q1 (by
    by_cases h0:0 < k
    ·rw [(hpk h0).2] at h
     injection h with h
     exact Ph
    rw [RD (by omega)] at h
    cases h))] at heq
   refine dI hmx [[],[0],[0,1],[0,1,2],ra 0 4,[0,1,2],[0,1,2],[0,1,2,6],[0,1,2,5,6,7],[0,1,2,5,6,7,8],[0,1,2,5,6,7,8,9],ra 0 11,ra 0 12,ra 0 13] [13] (by kernel_rfl) [_,_,_,undef,undef,undef,undef,undef,undef,undef,undef,undef,_] H (aC (Z0 rfl (Rm rfl)) (Z1 0 42 rfl (Rc rfl)) (Z1 1 43 rfl (Rm rfl)) (aZ 2 (aY c0) rfl rfl) (aC (aZ 2 (aY c0) rfl rfl) (aZ 2 (aY c0) rfl rfl) (aZ 2 (aY c0) rfl rfl) (aZ 2 (aY c0) rfl rfl) (aC (aZ 2 (aY c0) rfl rfl) (aZ 2 (aY c0) rfl rfl) (aZ 2 (aY c0) rfl rfl) (aZ 2 (aY c0) rfl rfl) (bP (Z2 2 44 11 53 rfl (Pf (aY c0) rfl)) (bP (bU rfl) dH))))) ?_
   clear H;intro a w G tq H hv;have H:=H.aN (hv 12 54 rfl rfl) rfl;clear hv;refine kH H (Ra rfl ?_);clear H;intro a H;refine aB ⟨rfl,?_⟩;refine fC _ _ ?_;clear fC;refine sS H rfl rfl ?_;refine iG ?_;refine ⟨_,by exact H.sub ⟨rfl,rfl,rfl,rfl,rfl,rfl,ay⟩,?_⟩
   have q2:¬ (0 < (k:Int)∧l[k].key < pk):=by first|exact fun h=>c3 h.2|exact fun h=>c0 h.1
   rw [av (fun h=>q2 (by
    by_cases h0:0 < k
    ·rw [(hpk h0).2] at h;exact Pj
    rw [RD (by omega)] at h
    cases h))] at heq
   exact aau
  clear H;intro g2 a w hI H;obtain ⟨heq,lT⟩:=hI;replace hrow:=fun j u hj=>aF lT (hrow j u hj);dsimp only [lca,bM] at H;refine kP H (SR fun _ gX=>bO xP aG 0 rfl rfl (bO Qb aG 0 rfl rfl ?_));clear H;intro a H;refine s_call U3 H wn rfl (Uq _ _ H.ro l[k].key l[k].value) rfl ?_;clear H;rintro v59 G59 a w rfl aqQ H;refine kH H (aj gX rfl (SR fun _ fM=>Rm rfl (Rc rfl (Kz fM (Cd rfl ?_ ?_))))) <;> clear H gX fM
  ·intro Ho a H
   try have p61:=dT Ho
   refine kP H (SR fun _ iI=>Rm rfl (aj iI rfl ?_));clear H iI;intro a H;refine lr H results129 rfl ?_
   exact Gn
  intro Ho a H
  try have p61:=dF Ho
  refine kP H (Kc aS (SC (Rd rfl (Rm rfl ?_))));clear H aS;intro a H;refine aB ?_;refine dJ ((k+1,G59)) (by exact (H.fG (Pl:=[_]) (eH:=[]) [] (by decide) rfl).sub ⟨rfl,rfl,rfl,rfl,rfl,ay⟩) ?_
  (try dsimp only);exact ⟨by omega,by rw [aD (by simpa using p61)] at heq;exact heq,fun b o h=>aqQ b o (lT b o (hgm b o h))⟩
 intro cu a H
 try have lN:=dF cu
 refine eu ?_;refine K6 _ _ ?_;clear K6;refine kP H (SR fun _ jH=>aj jH rfl ?_);clear H jH;intro a H;refine lr H results129 rfl ?_
 exact Gn
def jE (l:List aL) (k:Int):Int × Bool:=if nT (l.map aL.key) k=true then ((l.getD (gQ (l.map aL.key) k) ⟨0,0⟩).value,true) else (0,false)
theorem Yz (G:GH) (w0:World) (hG:Hold G w0) (l:List aL) (t:Int) (v:ah) (hv:ak G (.sl 2 (l.map aL.dat)) v) (hl:l.length<=4294967296) :
  Calls prog 240 #[v,vi t] w0 (bE w0 G fun u G'=>u=.tuple #[vi (gQ (l.map aL.key) t),.bool (nT (l.map aL.key) t)]):=by
 obtain ⟨A,c,rfl,hc1,hc2,-⟩:=hv.slice;rw [bQ] at *;refine eN [(0,_),(1,_)] func240 rfl ntmps240 rfl rfl hG ?_;intro a H;refine kP H (SR fun _ K1=>Ra rfl (aj K1 rfl (SR fun _ K2=>Rm rfl (Rm rfl ?_))));clear H K1;intro a H;refine s_call amM H wn rfl (aiS _ _ H.ro l t _ hv hl) rfl ?_;clear H;rintro v8 G8 a w rfl rF H;(iterate 2 refine mh H wn rfl rfl rfl ?_;clear H;intro a H);refine kH H (Ra rfl (aj K2 rfl ?_));clear H K2;intro a H;refine dw ?_;refine (fJ H results240 (.cons (bB H rfl) (.cons (bB H rfl) .nil)) ?_).1;exact xK
theorem aoQ (G:GH) (w0:World) (hG:Hold G w0) (l:List aL) (t:Int) (v:ah) (hv:ak G (.sl 2 (l.map aL.dat)) v) (hl:l.length<=4294967296) :
  Calls prog 213 #[v,vi t] w0 (bE w0 G fun u G'=>u=.tuple #[vi (jE l t).1,.bool (jE l t).2]):=by
 obtain ⟨A,c,rfl,hc1,hc2,-⟩:=hv.slice;rw [bQ] at *;refine eN [(0,_),(1,_)] func213 rfl ntmps213 rfl rfl hG ?_;intro a H;refine kP H (SR fun _ K1=>Ra rfl (aj K1 rfl (SR fun _ K2=>Rm rfl (Rm rfl ?_))));clear H K1;intro a H;refine s_call U6 H wn rfl (Yz _ _ H.ro l t _ hv hl) rfl ?_;clear H;rintro v11 uG a w rfl DU H;obtain ⟨n,hn⟩:∃ n,n=gQ (l.map aL.key) t:=⟨_,rfl⟩;obtain ⟨q,hq⟩:∃ q,q=nT (l.map aL.key) t:=⟨_,rfl⟩;rw [<- hn,<- hq] at H;refine kH H (Rm rfl ?_);clear H;intro a H;(iterate 2 refine mh H wn rfl rfl rfl ?_;clear H;intro a H);refine kH H (Ra rfl (aj K2 rfl (SQ fun _ K3=>SR fun _ K4=>Rm rfl (Rn rfl (Kz K4 (Cd rfl ?_ ?_)))))) <;> clear H K2 K4
 ·intro jN a H
  refine kP H (SR fun _ K5=>Ra rfl (aj K5 rfl ?_));clear H K5;intro a H;refine dw ?_;refine (fJ H results213 (.cons (bB H rfl) (.cons (bB H rfl) .nil)) ?_).1;exact H.rt (by rw [jE,av (by rw [<- hq];simpa using jN)])
 intro jN a H
 try have tF:=dF jN
 have hlt:n < l.length:=by have:=MS (ks:=l.map aL.key) (t:=t) (by rw [<- hq];simpa using jN);rw [<- hn] at this;simpa using this
 obtain ⟨b,o,rfl,hrow⟩:=IJ (hv.mono DU) hlt;have r1:aI uG b (o+n*2+1)=some (vi l[n].value):=hrow 1 _ rfl;refine kP H (Kc K3 (SR fun _ K6=>Rm rfl (Rm rfl (Ri gU iw rfl rfl (Rf Qb rfl (Rg aG rfl (by assumption) ?_))))));clear H K3;intro a H;refine kH H (Ra rfl (aj K6 rfl ?_));clear H K6;intro a H;refine dw ?_;refine (fJ H results213 (.cons (bB H rfl) (.cons (bB H rfl) .nil)) ?_).1;exact H.rt (by rw [jE,aD (by rw [<- hq];simpa using jN),<- hn,List.getD_eq_getElem?_getD,eD hlt];rfl)
theorem UU:aQ 159:=aR func159 rfl
theorem amx:aQ 241:=aR func241 rfl
theorem awY:qR prog 187 [(0,1),(1,1)] [.int .i64 0,.int .i64 0]:=⟨by kernel_rfl,by kernel_rfl⟩
theorem amy:aQ 242:=aR func242 rfl
theorem awl {cur x ys A:List ah} {p q:Nat} (hA:cur.take p=A) (hp:p<=cur.length) (hx:x.length=q) (hl:p+q+ys.length<=cur.length):(seg (seg cur p x) (p+q) ys).take (p+q+ys.length)=A++x++ys∧(seg (seg cur p x) (p+q) ys).length=cur.length:=by
 have h1:(seg cur p x).length=cur.length:=FM (by omega);refine ⟨?_,by rw [FM (by rw [h1];omega),h1]⟩
 have h2:(seg cur p x).take (p+q)=A++x:=by
  rw [seg,hA,List.take_append_of_le_length (by rw [<- hA];simp;omega),jm (by rw [<- hA];simp;omega)]
 rw [seg,h2,List.take_append_of_le_length (by rw [<- hA];simp;omega),jm (by rw [<- hA];simp;omega)]
theorem awm {cur x ys A:List ah} {p q:Nat} (hA:cur.take p=A) (hp:p<=cur.length) (hx:x.length=q) (hl:p+q+ys.length<=cur.length):(seg (seg cur (p+q) ys) p x).take (p+q+ys.length)=A++x++ys∧(seg (seg cur (p+q) ys) p x).length=cur.length:=by
 have h1:(seg cur (p+q) ys).length=cur.length:=FM (by omega);refine ⟨?_,by rw [FM (by rw [h1];omega),h1]⟩
 have h2:(seg cur (p+q) ys).take p=A:=by
  rw [seg,ko,List.take_append_of_le_length (by simp;omega),List.take_take,Nat.min_eq_left (by omega),hA]
 have h3:(seg cur (p+q) ys).drop (p+q)=ys++cur.drop (p+q+ys.length):=by
  rw [seg,ko,List.drop_append_of_le_length (by simp;omega),tX (by simp;omega),nQ]
 rw [seg,hx,h2,h3,<- ko,List.take_append_of_le_length (by rw [<- hA];simp;omega),jm (by rw [<- hA];simp;omega)]
theorem awk {cur ys A:List ah} {p:Nat} (hA:cur.take p=A) (hl:p+ys.length<=cur.length):(seg cur p ys).take (p+ys.length)=A++ys:=by
 rw [seg,hA,List.take_append_of_le_length (by rw [<- hA];simp;omega),jm (by rw [<- hA];simp;omega)]
theorem awL {b o lo n c sz o' n' c':Nat} (h:¬ c=lo) (ho:o+lo*sz=o') (hn:n - lo=n') (hc:c - lo=c'):Value.slice (if c=lo then some ⟨b,o,none⟩ else (some ⟨b,o,none⟩:Option Addr).map (·.add (lo*sz))) (n - lo) (c - lo)=.slice (some ⟨b,o',none⟩) n' c':=by
 subst ho hn hc;rw [av h,wE,add_lit]
theorem Pk {p:Prop} (h:p:=by
 exact fin H iJ (awL (by omega) (by omega) (by omega) rfl)):p:=h
set_option maxHeartbeats 4000000 in
theorem asi (G:GH) (w0:World) (Lo:OL) (hO:gY G Lo w0) (v:ah) (n i:Nat) (xs:List ah) (hrw:dR 187 2 v n xs Lo) (hx1:xs.all Value.oneCell'=true) (hi:i<=n) (hn:n<=4294967296) (bv:Nat) (x0 x1:ah) (hb:G bv=some (.cells #[x0,x1] 187 (0,0))) (h0:x0.oneCell'=true) (h1:x1.oneCell'=true) :
  Calls prog 241 #[v,vi i,.slice (some ⟨bv,0,none⟩) 1 1] w0 (gF w0 G Lo fun u G' L'=>dR 187 2 u (n+1) (xs.take (i*2)++[x0,x1]++xs.drop (i*2)) L'):=by
 have hml:maxLen=9223372036854775807:=rfl;obtain ⟨A,c,rfl,hc1,hc2⟩:=hrw.shape;have hxl:=hrw.1
 have hx2:[x0,x1].all Value.oneCell'=true:=by simp [h0,h1]
 have hgx:∀ {w:World} {G':GH},Hold G' w->(∀ b o,G b=some o->G' b=some o)->∀ j u,[x0,x1][j]?=some u->w.cell? ⟨bv,0+j,none⟩=some u:=fun {w} {G'} hG hm j u hj=>by
  simp [World.cell?,hG _ _ (hm _ _ hb),<- hj]
 refine jD (N:=95) (T:=[(0,_),(1,_),(2,_)]) func241 rfl ntmps241 rfl rfl hO ?_;intro a H;refine kP H (SR fun _ K1=>aj K1 rfl (SR fun _ K2=>Rm rfl (Rm rfl ?_)));clear H K1;intro a H;refine zW gU iw i H wn rfl rfl rfl hi rfl ?_;clear H;intro a H;refine K2 _ _ ?_;clear K2;refine kP H (SR fun _ K3=>Rm rfl (Rl gU rfl (aj K3 rfl (SQ fun _ K4=>SR fun _ K5=>Rm rfl (Rc rfl (Kz K5 (Cd rfl ?_ ?_))))))) <;> clear H K3 K5
 ·intro h16 a H
  try have p16:=dT h16
  exact absurd p16 (by decide)
 intro h16 a H
 try have p16:=dF h16
 refine kP H (Kc K4 (SR fun _ K6=>Rm rfl (Rl gU rfl (aj K6 rfl (SQ fun _ K7=>SR fun _ K8=>Rm rfl (Rm rfl (Rc rfl (Kz K8 (Cd rfl ?_ ?_))))))))) <;> clear H K4 K6 K8
 ·intro h22 a H
  try have oW:=dT h22
  refine kP H (SR fun _ K9=>Rm rfl (Rm rfl ?_));clear H;intro a H;refine oZ (Li:=[]) (Lo:=Lo) (news:=[x0,x1]) gU iw rfl rfl H wn rfl rfl hrw rfl (hgx H.ro fun _ _ h=>h) hx2 (by omega) (by omega) rfl ?_;clear H;intro v25 aym a w aro H;dsimp only [List.nil_append] at H;refine kH H (aj K9 rfl ?_);clear H K9;intro a H;refine lr H results241 rfl ?_
  exact H.hp.gT (by
   have e:i=n:=by omega
   have e1:xs.take (i*2)=xs:=jm (by omega);have e2:xs.drop (i*2)=[]:=tX (by omega)
   rw [e1,e2,iF];exact aro)
 intro h22 a H
 try have oW:=dF h22
 have hlt:i < n:=by omega
 obtain ⟨b,cap,cur,he,rfl,-,-,hcs,hct⟩:=hrw.2.resolve_left (fun h=>by omega)
 injection he with e1 e2 e3
 subst e1 e3;obtain ⟨cur,rfl⟩:∃ l:List ah,cur=l.toArray:=⟨cur.toList,by simp⟩
 simp only [List.size_toArray,List.toList_toArray] at hcs hct
 have Qx:cur.take (i*2)=xs.take (i*2):=by rw [<- hct,List.take_take,Nat.min_eq_left (by omega)]
 have hcd:∀ j u,(xs.drop (i*2))[j]?=some u->cur[i*2+j]?=some u:=fun j u hj=>by
  rw [List.getElem?_drop,<- hct,uL] at hj
  split at hj
  ·exact hj
  cases hj
 have aqm:∀ j u,(xs.take (i*2))[j]?=some u->cur[j]?=some u:=fun j u hj=>by
  rw [<- Qx,uL] at hj
  split at hj
  ·exact hj
  cases hj
 have hyl:(xs.drop (i*2)).length=(n - i)*2:=by rw [List.length_drop,hxl];omega
 have hy1:(xs.drop (i*2)).all Value.oneCell'=true:=lq.2 fun u hu=>lq.1 hx1 u (List.mem_of_mem_drop hu)
 have hbne:bv≠b:=fun e=>by have:=hO.sep (b,_) (List.mem_singleton_self _);rw [<- e,hb] at this;cases this
 refine kP H (Kc K7 (SQ fun _ aS=>SR fun _ bH=>Rm rfl (Rm rfl (Rd rfl (Rm rfl ?_)))));clear H K7;intro a H;refine avH gU H wn rfl rfl ?_;clear H;intro a H;refine kH H (Rc rfl (Kz bH (Cd rfl ?_ ?_))) <;> clear H bH
 ·intro h31 a H
  try have p31:=dT h31
  refine kP H (SR fun _ bT=>Rm rfl (Rm rfl ?_));clear H;intro a H;refine FL gU iw i H wn rfl rfl rfl (by omega) rfl ?_;clear H;intro a H;refine kH H (Rm rfl (Rm rfl (Rd rfl (Rm rfl (Rs rfl ?_)))));clear H;intro a H;refine avD (m:=n+1 - i) gU mJ iw rfl rfl (xs.take (i*2)) H wn rfl rfl (by omega) (by rw [List.length_take,hxl];omega) (fun j u hj=>H.hp.tC 0 rfl (by rw [iA];simpa using aqm j u hj)) (by omega) (by omega) (by omega) (by omega) rfl ?_;clear H;intro b2 cap2 EK a w hq1 hq2 hq3 hq4 H;rw [show i+(n+1 - i)=n+1 by omega] at hq1 H;refine kH H (aj bT rfl (SR fun _ cK=>Rm rfl (Rm rfl ?_)));clear H bT;intro a H;refine zW gU iw i H wn rfl rfl rfl (by omega) rfl ?_;clear H;intro a H;rw [dL,wE,add_lit,iA] at H;refine kH H (Rm rfl ?_);clear H;intro a H;refine Sd gU iw 0 1 [x0,x1] H wn rfl rfl rfl (by omega) rfl (hgx H.ro fun _ _ h=>h) (by simp;omega) hx2 rfl ?_;clear H;intro a w H;dsimp only [List.set] at H;obtain ⟨arC,arD⟩:=awl (x:=[x0,x1]) (ys:=xs.drop (i*2)) (q:=2) hq4 (by omega) rfl (by rw [hyl];omega);refine cK _ _ ?_;clear cK;refine bR (fun _ dB=>?_);refine dI hmx [[],[],[],[1,2],ra 0 4,[],[],[5,6],ra 0 8] [8] (by kernel_rfl) [_,_,_,_,.slice (some ⟨b2,i*2+2,none⟩) (n - i) (cap2 - (i+1)),_,_,.slice (some ⟨b,i*2,none⟩) (n - i) (c - i)] H (aC (Z0 rfl (Rm rfl)) (Z0 rfl (Rm rfl)) (Z0 rfl (Rm rfl)) (Z2 1 47 2 48 rfl (Rd rfl)) (aC ?_ (Z0 rfl (Rm rfl)) (Z0 rfl (Rm rfl)) ?_ (bP (bU rfl) dH))) ?_
  ·refine dO 0 46 3 49 rfl rfl fun _ a w G1 hG HT H fin=>?_;refine zW gU iw (i+1) H wn rfl rfl (by omega) (by omega) rfl ?_;clear H;intro a H;exact Pk
  ·refine dO 5 51 6 52 rfl rfl fun _ a w G1 hG HT H fin=>?_;refine zW gU iw i H wn rfl rfl rfl (by omega) rfl ?_;clear H;intro a H;exact Pk
  clear H;intro a w G pX H hv;have H:=H.aN (hv 4 50 rfl rfl) rfl;have H:=H.aN (hv 7 53 rfl rfl) rfl;clear hv;refine Sd gU iw 0 (n - i) (xs.drop (i*2)) H wn rfl rfl rfl (by omega) hyl (fun j u hj=>H.hp.tC 1 rfl (by simpa using hcd j u hj)) (by rw [FM (by simp;omega),hyl];omega) hy1 rfl ?_;clear H;intro a w H;dsimp only [List.set] at H;refine aB ⟨rfl,?_⟩;refine dB _ _ ?_;clear dB;exact kP H (SR fun _ eU=>Rm rfl (aj eU rfl (LR results241 rfl fun H=>H.hp.ng (L':=[_]) (List.Sublist.cons_cons _ (List.nil_sublist _)) ⟨by simp [List.length_take,hxl,hyl];omega,.inr ⟨b2,cap2,_,rfl,rfl,hq1,hq2,by rw [List.size_toArray,arD,hq3],by rw [List.toList_toArray];rw [<- arC];congr 1;rw [hyl];omega⟩⟩)))
 intro h31 a H
 try have p31:=dF h31
 refine kP H (Kc aS (SR fun _ eX=>Rm rfl (Rm rfl (Rm rfl (Rd rfl ?_)))));clear H aS;intro a H;refine FL gU iw (n+1) H wn rfl rfl (by omega) (by omega) rfl ?_;clear H;intro a H;refine kH H (aj eX rfl (SQ fun _ eG=>SR fun _ fC=>Rm rfl (Rm rfl (Rm rfl (Rm rfl (Rd rfl ?_))))));clear H eX;intro a H;refine zW gU iw (i+1) H wn rfl rfl (by omega) (by omega) rfl ?_;clear H;intro a H;rw [dL,wE,add_lit,iA] at H;refine avQ (t:=23) (tr:=4) func262 (by kernel_rfl) (by kernel_rfl) (by kernel_rfl) (by kernel_rfl) gU iw H wn rfl rfl (H.ro _ _ hb) (H.hp.own (b,_) (List.mem_singleton_self _)) hbne (by rw [List.size_toArray,hcs];omega) rfl ?_;clear H;intro a H;refine kH H (Rn rfl (Kz fC (Cd rfl ?_ ?_))) <;> clear H fC
 ·intro h68 a H
  try have p68:=dT h68
  refine bR (fun _ gX=>?_);refine dI hmx [[],[],[],[1,2],ra 0 4,[],[],[5,6],ra 0 8] [8] (by kernel_rfl) [_,_,_,_,.slice (some ⟨b,i*2+2,none⟩) (n - i) (c - (i+1)),_,_,.slice (some ⟨b,i*2,none⟩) (n+1 - i) (c - i)] H (aC (Z0 rfl (Rm rfl)) (Z0 rfl (Rm rfl)) (Z0 rfl (Rm rfl)) (Z2 1 70 2 71 rfl (Rd rfl)) (aC ?_ (Z0 rfl (Rm rfl)) (Z0 rfl (Rm rfl)) ?_ (bP (bU rfl) dH))) ?_
  ·refine dO 0 69 3 72 rfl rfl fun _ a w G1 hG HT H fin=>?_;refine zW gU iw (i+1) H wn rfl rfl (by omega) (by omega) rfl ?_;clear H;intro a H;exact Pk
  ·refine dO 5 74 6 75 rfl rfl fun _ a w G1 hG HT H fin=>?_;refine zW gU iw i H wn rfl rfl rfl (by omega) rfl ?_;clear H;intro a H;exact Pk
  clear H;intro a w G DL H hv;have H:=H.aN (hv 4 73 rfl rfl) rfl;have H:=H.aN (hv 7 76 rfl rfl) rfl;clear hv;refine Sd gU iw 0 (n - i) (xs.drop (i*2)) H wn rfl rfl rfl (by omega) hyl (fun j u hj=>H.hp.tC 0 rfl (by simpa using hcd j u hj)) (by rw [hyl];omega) hy1 rfl ?_;clear H;intro a w H;dsimp only [List.set] at H;obtain ⟨arE,arF⟩:=awm (x:=[x0,x1]) (ys:=xs.drop (i*2)) (q:=2) Qx (by omega) rfl (by rw [hyl];omega);refine aB ⟨rfl,?_⟩;refine gX _ _ ?_;clear gX;refine kP H (SR fun _ fM=>Rm rfl (Rm rfl ?_));clear H;intro a H;refine zW gU iw i H wn rfl rfl rfl (by omega) rfl ?_;clear H;intro a H;rw [dL,wE,add_lit,iA] at H;refine kH H (Rm rfl ?_);clear H;intro a H;refine Sd gU iw 0 1 [x0,x1] H wn rfl rfl rfl (by omega) rfl (hgx H.ro DL) (by rw [FM (by rw [hyl];omega)];simp;omega) hx2 rfl ?_;clear H;intro a w H;dsimp only [List.set] at H;refine fM _ _ ?_;clear fM;exact kP H (SR fun _ iI=>Rm rfl (aj iI rfl (LR results241 rfl fun H=>H.hp.gT ⟨by simp [List.length_take,hxl,hyl];omega,.inr ⟨b,c,_,rfl,rfl,by omega,hc2,by rw [List.size_toArray,arF,hcs],by rw [List.toList_toArray];rw [<- arE];congr 1;rw [hyl];omega⟩⟩)))
 intro h68 a H
 exact absurd (show true=false from h68) (by decide)
set_option maxHeartbeats 4000000 in
theorem akC (G:GH) (w0:World) (Lo:OL) (hO:gY G Lo w0) (v:ah) (n i:Nat) (xs:List ah) (hrw:dR 187 2 v n xs Lo) (hx1:xs.all Value.oneCell'=true) (hi:i < n) (hn:n<=4294967296) :
  Calls prog 242 #[v,vi i,vi ((i:Int)+1)] w0 (gF w0 G Lo fun u G' L'=>dR 187 2 u (n - 1) (xs.take (i*2)++xs.drop ((i+1)*2)) L'):=by
 have hml:maxLen=9223372036854775807:=rfl;have hxl:=hrw.1;obtain ⟨b,c,cur,rfl,rfl,hc1,hc2,hcs,hct⟩:=hrw.2.resolve_left (fun h=>by omega);obtain ⟨cur,rfl⟩:∃ l:List ah,cur=l.toArray:=⟨cur.toList,by simp⟩
 simp only [List.size_toArray,List.toList_toArray] at hcs hct
 have Qx:cur.take (i*2)=xs.take (i*2):=by rw [<- hct,List.take_take,Nat.min_eq_left (by omega)]
 have hcd:∀ j u,(xs.drop ((i+1)*2))[j]?=some u->cur[(i+1)*2+j]?=some u:=fun j u hj=>by
  rw [List.getElem?_drop,<- hct,uL] at hj
  split at hj
  ·exact hj
  cases hj
 have hyl:(xs.drop ((i+1)*2)).length=(n - (i+1))*2:=by rw [List.length_drop,hxl];omega
 have hy1:(xs.drop ((i+1)*2)).all Value.oneCell'=true:=lq.2 fun u hu=>lq.1 hx1 u (List.mem_of_mem_drop hu)
 obtain ⟨o2,ho2,ho3⟩:∃ o2,(if c=i+1 then some ⟨b,0,none⟩ else (some ⟨b,0,none⟩:Option Addr).map (·.add ((i+1)*2)))=some ⟨b,o2,none⟩∧(i+1 < n->o2=(i+1)*2):=by
  by_cases h:c=i+1
  ·rw [aD h];exact ⟨0,rfl,fun h=>by omega⟩
  rw [av h,wE,add_lit,iA];exact ⟨_,rfl,fun _=>rfl⟩
 have hsd:=awk (ys:=xs.drop ((i+1)*2)) Qx (by rw [hyl];omega);rw [hyl,show i*2+(n - (i+1))*2=(n - 1)*2 by omega] at hsd;refine jD (N:=33) (T:=[(0,_),(1,_),(2,_)]) func242 rfl ntmps242 rfl rfl hO ?_;intro a H;refine kP H (SR fun _ K1=>aj K1 rfl (SR fun _ K2=>Rm rfl (Rm rfl (Rm rfl (Rm rfl (Rl gU rfl ?_))))));clear H K1;intro a H;refine avU gU iw i (i+1) n H wn rfl rfl rfl rfl rfl (by omega) rfl (by omega) (by omega) hc1 rfl ?_;clear H;intro v13 a H;refine K2 _ _ ?_;clear K2;refine kP H (SQ fun _ K3=>SR fun _ K4=>Rm rfl (Rm rfl (Rc rfl (Kz K4 (Cd rfl ?_ ?_))))) <;> clear H K4
 ·intro h16 a H
  try have p16:=dT h16
  exfalso;omega
 intro h16 a H
 try have p16:=dF h16
 refine kP H (Kc K3 (SR fun _ K5=>Rm rfl (Rl gU rfl (aj K5 rfl (SQ fun _ K6=>?_)))));clear H K3 K5;intro a H;refine dI hmx [[],[],[0,1],[],[],[3,4],ra 0 6,ra 0 7] [6,7] (by kernel_rfl) [_,_,.slice (some ⟨b,0,none⟩) i c,_,_,.slice (some ⟨b,o2,none⟩) (n - (i+1)) (c - (i+1))] H (aC (Z0 rfl (Rm rfl)) (Z0 rfl (Rm rfl)) ?_ (Z0 rfl (Rm rfl)) (aC (Z0 rfl (Rm rfl)) ?_ (bU rfl) (bU rfl) dH)) ?_
 ·refine dO 0 20 1 21 rfl rfl fun _ a w G1 hG HT H fin=>?_;refine FL gU iw i H wn rfl rfl rfl (by omega) rfl ?_;clear H;intro a H;exact dZ
 ·refine dO 3 23 4 24 rfl rfl fun _ a w G1 hG HT H fin=>?_;refine zW gU iw (i+1) H wn rfl rfl (by omega) (by omega) rfl ?_;clear H;intro a H;exact fin H iJ (cO (fun A=>Value.slice A (n - (i+1)) (c - (i+1))) ho2)
 clear H;intro a w G oz H hv;have H:=H.aN (hv 2 22 rfl rfl) rfl;have H:=H.aN (hv 5 25 rfl rfl) rfl;clear hv
 refine avC gU iw 0 (xs.drop ((i+1)*2)) H wn rfl rfl rfl hyl (fun j u hj=>H.hp.tC 0 rfl (by
  have hj2:=(jZ.1 hj).1;rw [hyl] at hj2
  rw [ho3 (by omega)];simpa using hcd j u hj)) hy1 (by omega) (by rw [hyl];omega) rfl ?_;clear H;intro a w H
 dsimp only [List.set] at H;rw [show i+(n - (i+1))=n - 1 by omega] at H;refine kH H (Ra rfl ?_);clear H;intro a H;refine aB ⟨rfl,?_⟩;refine K6 _ _ ?_;clear K6;refine kP H (SR fun _ K7=>Rm rfl (Rm rfl (Rl gU rfl (Rm rfl ?_))));clear H;intro a H;refine avT gU iw (n - 1) n H wn rfl rfl rfl rfl rfl (by omega) (by omega) rfl ?_;clear H;intro a H;rw [dL,wE,add_lit,iA,show n - (n - 1)=1 by omega] at H;refine agK gU iw rfl rfl 0 H wn rfl rfl (by omega) (by rw [FM (by rw [hyl];omega)];omega) ?_;clear H;intro c2 w hq1 hq2 H;dsimp only [List.set] at H;refine K7 _ _ ?_;clear K7;exact kP H (SR fun _ K8=>Rm rfl (aj K8 rfl (LR results242 rfl fun H=>H.hp.gT ⟨by simp [List.length_take,hxl];omega,.inr ⟨b,c,_,rfl,rfl,by omega,hc2,by rw [List.size_toArray,hq1,FM (by rw [hyl];omega),hcs],by rw [List.toList_toArray,hq2,hsd]⟩⟩)))
def Bt (l:List aL) (k v:Int):List aL:=if nT (l.map aL.key) k=true then l.set (gQ (l.map aL.key) k) ⟨(l.getD (gQ (l.map aL.key) k) ⟨0,0⟩).key,v⟩ else l.take (gQ (l.map aL.key) k)++⟨k,v⟩ :: l.drop (gQ (l.map aL.key) k)
def Aq (l:List aL) (k:Int):List aL:=if nT (l.map aL.key) k=true then l.take (gQ (l.map aL.key) k)++l.drop (gQ (l.map aL.key) k+1) else l
theorem PO (l:List aL) (i:Nat) (h:i<=l.length):(mO l).take (i*2)=mO (l.take i)∧(mO l).drop (i*2)=mO (l.drop i):=by
 have e:mO l=mO (l.take i)++mO (l.drop i):=by rw [<- Ml,List.take_append_drop]
 have hl:(mO (l.take i)).length=i*2:=by rw [UG,List.length_take,Nat.min_eq_left h]
 rw [e];exact ⟨by rw [List.take_append_of_le_length (by omega),jm (by omega)],by rw [List.drop_append_of_le_length (by omega),tX (by omega),nQ]⟩
theorem abu (l:List aL):(mO l).all Value.oneCell'=true:=by
 rw [lq];intro u hu;obtain ⟨cs,hcs,hu⟩:=List.mem_flatten.1 hu;obtain ⟨p,-,rfl⟩:=List.mem_map.1 hcs
 simp only [aL.cells,iy,List.mem_nil_iff,or_false] at hu
 rcases hu with rfl|rfl <;> rfl
theorem akA (l:List aL) (i:Nat) (h:i < l.length) (v:Int):(mO l).set (i*2+1) (vi v)=mO (l.set i ⟨l[i].key,v⟩):=by
 have e:mO l=mO (l.take i)++([vi l[i].key,vi l[i].value]++mO (l.drop (i+1))):=by
  conv=>lhs;rw [<- List.take_append_drop i l,rU h,Ml]
  rfl
 have hl:(mO (l.take i)).length=i*2:=by rw [UG,List.length_take,Nat.min_eq_left (by omega)]
 rw [e,List.set_append_right _ _ (by omega),hl,show i*2+1 - i*2=1 by omega,show ([vi l[i].key,vi l[i].value]++mO (l.drop (i+1))).set 1 (vi v)=[vi l[i].key,vi v]++mO (l.drop (i+1)) from rfl,List.set_eq_take_append_cons_drop (l:=l),aD h,Ml]
 rfl
set_option maxHeartbeats 1000000 in
theorem awr (G:GH) (w0:World) (hG:Hold G w0) (l:List aL) (k x:Int) (v:ah) (hv:ak G (.sl 2 (l.map aL.dat)) v) (hl:l.length<=4294967295) :
  Calls prog 214 #[v,vi k,vi x] w0 (bE w0 G fun u G'=>ak G' (.sl 2 ((Bt l k x).map aL.dat)) u):=by
 obtain ⟨A,c,rfl,hc1,hc2,-⟩:=hv.slice;rw [bQ] at *;refine eN [(0,_),(1,_),(2,_)] func214 rfl ntmps214 rfl rfl hG ?_;intro a H;refine kP H (SR fun _ K1=>aj K1 rfl (SR fun _ K2=>Rm rfl (Rm rfl ?_)));clear H K1;intro a H;refine s_call U6 H wn rfl (Yz _ _ H.ro l k _ hv (by omega)) rfl ?_;clear H;rintro v13 I7 a w rfl M0 H;obtain ⟨n,hn⟩:∃ n,n=gQ (l.map aL.key) k:=⟨_,rfl⟩;obtain ⟨q,hq⟩:∃ q,q=nT (l.map aL.key) k:=⟨_,rfl⟩;rw [<- hn,<- hq] at H;refine kH H (Rm rfl ?_);clear H;intro a H;(iterate 2 refine mh H wn rfl rfl rfl ?_;clear H;intro a H);refine kH H (Ra rfl (aj K2 rfl (SR fun _ K3=>Rm rfl ?_)));clear H K2;intro a H;refine iE UU (Li:=[]) (L:=[]) H wn rfl (afU (Hp.owns (Li:=[]) H.hp) l _ (hv.mono M0) (by omega)) rfl ?_;clear H;rintro v17 zu Tx a w QM sw H;dsimp only [List.nil_append] at H;obtain ⟨A17,c17,rfl,-,-⟩:=QM.shape;refine kH H (aj K3 rfl (SQ fun _ K4=>SR fun _ K5=>Rm rfl (Kz K5 (Cd rfl ?_ ?_)))) <;> clear H K3 K5
 ·intro h18 a H
  try have tH:=dT h18
  refine bR (fun _ K6=>?_)
  have hlt:n < l.length:=by
   have:=MS (ks:=l.map aL.key) (t:=k) (by rw [<- hq];assumption);rw [<- hn] at this;simpa using this
  obtain ⟨bb,rfl⟩:=QM.ptr (by omega);obtain ⟨cur,-,rfl,hcur,hset⟩:=QM.set1;refine kP H (SC (Rm rfl (Rm rfl (Rm rfl ?_))));clear H;intro a H;refine zi gU iw n H wn rfl rfl rfl (by omega) rfl ?_;clear H;intro a H;refine kH H (Rf Qb rfl ?_);clear H;intro a H;refine KS aG 0 (c:=cur) (vs:=[vi x]) (cur.set (n*2+1) (vi x)) H wn rfl rfl rfl rfl rfl rfl (by simp;omega) (by rw [iA];rfl) ?_;clear H;intro w H;dsimp only [List.set] at H;have hrwn:=hset (n*2+1) (vi x);rw [akA l n hlt] at hrwn;obtain ⟨G',hm',hrep,H⟩:=St.qG (Li:=[]) H hrwn (rows:=(l.set n ⟨l[n].key,x⟩).map aL.dat) (by simp) (RH _ _);exact kH H (Kn K6 (SR fun _ K7=>Rm rfl (aj K7 rfl (LR results214 rfl fun H=>H.rt (by rw [Bt,aD (by rw [<- hq];assumption),<- hn,List.getD_eq_getElem?_getD,eD hlt];exact hrep)))))
 intro h18 a H
 try have tH:=dF h18
 refine kP H (Kc K4 (SR fun _ K8=>Rm rfl (Rm rfl (Rm rfl (Rm rfl ?_)))));clear H K4;intro a H;refine jF awY [_,_] H wn rfl rfl rfl rfl ?_;clear H;intro a H;refine iV gU iw [_,_] [_,_] H wn rfl rfl rfl rfl rfl (by intro i q h;match i,h with|0,h=>exact h|n+1,h=>simp at h) rfl rfl ?_;clear H;intro b30 a w apS H;obtain ⟨Gb,hmb,apT,H⟩:=H.fO;refine iE amx (Li:=[]) (L:=Tx) H wn rfl (asi _ _ Tx (Hp.owns (Li:=[]) H.hp) _ l.length n (mO l) QM (abu l) (by rw [hn];exact Nat.le_trans (EI _ _) (by simp)) (by omega) b30 (vi k) (vi x) apT rfl rfl) rfl ?_;clear H;rintro v31 G31 L31 a w QN ayY H;rw [(PO l n (by rw [hn];exact Nat.le_trans (EI _ _) (by simp))).1,(PO l n (by rw [hn];exact Nat.le_trans (EI _ _) (by simp))).2] at QN
 obtain ⟨G',hm',hrep,H⟩:=St.qG (Li:=[]) H QN (rows:=(l.take n++⟨k,x⟩ :: l.drop n).map aL.dat) (by simp;have:=EI (l.map aL.key) k;rw [<- hn] at this;simp at this;omega) (by
  have h:dK G31 2 ((l.take n++⟨k,x⟩ :: l.drop n).map aL.dat) (mO (l.take n++⟨k,x⟩ :: l.drop n)):=RH _ _;rw [Ml] at h
  simpa [mO,aL.cells] using h)
 exact kH H (aj K8 rfl (LR results214 rfl fun H=>H.rt (by rw [Bt,av (by rw [<- hq];simp_all),<- hn];exact hrep)))
set_option maxHeartbeats 1000000 in
theorem ajS (G:GH) (w0:World) (hG:Hold G w0) (l:List aL) (k:Int) (v:ah) (hv:ak G (.sl 2 (l.map aL.dat)) v) (hl:l.length<=4294967295) :
  Calls prog 215 #[v,vi k] w0 (bE w0 G fun u G'=>ak G' (.sl 2 ((Aq l k).map aL.dat)) u):=by
 obtain ⟨A,c,rfl,hc1,hc2,-⟩:=hv.slice;rw [bQ] at *;refine eN [(0,_),(1,_)] func215 rfl ntmps215 rfl rfl hG ?_;intro a H;refine kP H (SR fun _ K1=>aj K1 rfl (SR fun _ K2=>Rm rfl (Rm rfl ?_)));clear H K1;intro a H;refine s_call U6 H wn rfl (Yz _ _ H.ro l k _ hv (by omega)) rfl ?_;clear H;rintro v11 uG a w rfl DU H;obtain ⟨n,hn⟩:∃ n,n=gQ (l.map aL.key) k:=⟨_,rfl⟩;obtain ⟨q,hq⟩:∃ q,q=nT (l.map aL.key) k:=⟨_,rfl⟩;rw [<- hn,<- hq] at H;refine kH H (Rm rfl ?_);clear H;intro a H;(iterate 2 refine mh H wn rfl rfl rfl ?_;clear H;intro a H);refine kH H (Ra rfl (aj K2 rfl (SR fun _ K3=>Rm rfl ?_)));clear H K2;intro a H;refine iE UU (Li:=[]) (L:=[]) H wn rfl (afU (Hp.owns (Li:=[]) H.hp) l _ (hv.mono DU) (by omega)) rfl ?_;clear H;rintro v15 Df Tw a w Xb A9 H;dsimp only [List.nil_append] at H;obtain ⟨Zj,c15,rfl,-,-⟩:=Xb.shape;refine kH H (aj K3 rfl (SQ fun _ K4=>SR fun _ K5=>Rm rfl (Kz K5 (Cd rfl ?_ ?_)))) <;> clear H K3 K5
 ·intro h16 a H
  try have p16:=dT h16
  have hlt:n < l.length:=by
   have:=MS (ks:=l.map aL.key) (t:=k) (by rw [<- hq];assumption);rw [<- hn] at this;simpa using this
  refine kP H (SC (Rm rfl (Rm rfl (Rm rfl (Rd rfl ?_)))));clear H;intro a H;refine iE amy (Li:=[]) (L:=Tw) H wn rfl (akC _ _ Tw (Hp.owns (Li:=[]) H.hp) _ l.length n (mO l) Xb (abu l) hlt (by omega)) rfl ?_;clear H;rintro v21 Tg L21 a w aeC Cw H;rw [(PO l n (by omega)).1,(PO l (n+1) (by omega)).2,<- Ml] at aeC;obtain ⟨G',hm',hrep,H⟩:=St.qG (Li:=[]) H aeC (rows:=(l.take n++l.drop (n+1)).map aL.dat) (by simp;omega) (RH _ _);exact kH H (bG K4 rfl (SR fun _ K6=>Rm rfl (aj K6 rfl (LR results215 rfl fun H=>H.rt (by rw [Aq,aD (by rw [<- hq];assumption),<- hn];exact hrep)))))
 intro h16 a H
 try have p16:=dF h16
 obtain ⟨G',hm',hrep,H⟩:=St.qG (Li:=[]) H Xb (rows:=l.map aL.dat) (by simp) (RH _ _);exact kP H (Kc K4 (SR fun _ K7=>Rm rfl (aj K7 rfl (LR results215 rfl fun H=>H.rt (by rw [Aq,av (by rw [<- hq];simp_all)];exact hrep)))))
theorem anZ:OM prog 187 [(0,false),(1,false)]:=⟨by kernel_rfl,by kernel_rfl,by kernel_rfl,by kernel_rfl,by kernel_rfl⟩
theorem anX:OM prog 159 [(0,false),(1,false)]:=⟨by kernel_rfl,by kernel_rfl,by kernel_rfl,by kernel_rfl,by kernel_rfl⟩
theorem anY:OM prog 161 [(0,false),(1,false),(2,false),(3,true)]:=⟨by kernel_rfl,by kernel_rfl,by kernel_rfl,by kernel_rfl,by kernel_rfl⟩
theorem abU:aQ 102:=aR func102 rfl
theorem sV:dX prog 27 0 0:=⟨by kernel_rfl⟩
theorem Ch:dX prog 27 1 1:=⟨by kernel_rfl⟩
theorem akR:aQ 103:=aR func103 rfl
theorem akS:aQ 104:=aR func104 rfl
abbrev gJ.cells (x:gJ):List ah:=[vi x.rev,vi x.move]
abbrev bZ.cells (x:bZ):List ah:=[vi x.rev,vi x.key,vi x.before,.bool x.had]
theorem Ms {G:GH} {x:gJ} {cs:List ah} (h:bD G x.dat cs):cs=x.cells:=by
 simp only [gJ.dat,bD,ak] at h
 obtain ⟨_,_,rfl,⟨rfl,_⟩,_,_,rfl,⟨rfl,_⟩,rfl⟩:=h
 rfl
theorem XA {G:GH} {x:bZ} {cs:List ah} (h:bD G x.dat cs):cs=x.cells:=by
 simp only [bZ.dat,bD,ak] at h
 obtain ⟨_,_,rfl,⟨rfl,_⟩,_,_,rfl,⟨rfl,_⟩,_,_,rfl,⟨rfl,_⟩,_,_,rfl,⟨rfl,_⟩,rfl⟩:=h
 rfl
theorem aL.eq_iff (a b:aL):(a.key=b.key∧a.value=b.value)↔a=b:=by cases a;cases b;simp
theorem gJ.eq_iff (a b:gJ):(a.rev=b.rev∧a.move=b.move)↔a=b:=by cases a;cases b;simp
theorem bZ.eq_iff (a b:bZ):(a.rev=b.rev∧a.key=b.key∧a.before=b.before∧a.had=b.had)↔a=b:=by cases a;cases b;simp
instance:DecidableEq aL:=fun a b=>decidable_of_iff _ (aL.eq_iff a b)
instance:DecidableEq gJ:=fun a b=>decidable_of_iff _ (gJ.eq_iff a b)
instance:DecidableEq bZ:=fun a b=>decidable_of_iff _ (bZ.eq_iff a b)
theorem atp (a b:aL):(!([(0,false),(1,false)].all fun o=>mP #[vi a.key,vi a.value] o == mP #[vi b.key,vi b.value] o))=!decide (a=b):=by
 have h:=aL.eq_iff a b;rw [tY]
 simp only [LQ,sQ]
 rw [<- h]
 simp [mP]
theorem atn (a b:gJ):(!([(0,false),(1,false)].all fun o=>mP #[vi a.rev,vi a.move] o == mP #[vi b.rev,vi b.move] o))=!decide (a=b):=by
 have h:=gJ.eq_iff a b;rw [tY]
 simp only [LQ,sQ]
 rw [<- h]
 simp [mP]
theorem ato (a b:bZ):(!([(0,false),(1,false),(2,false),(3,true)].all fun o=>mP #[vi a.rev,vi a.key,vi a.before,.bool a.had] o == mP #[vi b.rev,vi b.key,vi b.before,.bool b.had] o))=!decide (a=b):=by
 have h:=bZ.eq_iff a b;rw [tY]
 simp only [LQ,sQ]
 rw [<- h]
 simp [mP]
theorem Gp {p:Prop} (h:p:=by
 exact ⟨by omega,by rw [kg hk2,kg hk3,hsame,hsm],fun b o h=>jU b o (hgm b o h)⟩):p:=h
theorem acy (G:GH) (w0:World) (hG:Hold G w0) (A B:List aL) (v u:ah) (hv:ak G (.sl 2 (A.map aL.dat)) v) (hu:ak G (.sl 2 (B.map aL.dat)) u) :
  Calls prog 102 #[v,u] w0 (bE w0 G fun r G'=>r=.bool (decide (A=B))):=by
 obtain ⟨vA,vc,rfl,hc1,hc2,hg⟩:=hv.slice;obtain ⟨uA,uc,rfl,hd1,hd2,hh⟩:=hu.slice;have hml:maxLen=9223372036854775807:=rfl;(iterate 2 rw [bQ] at *);refine eN [(0,_),(1,_)] func102 rfl ntmps102 rfl rfl hG ?_;intro a H;refine kP H (SR fun _ K1=>aj K1 rfl (SQ fun _ K2=>SR fun _ K3=>Rm rfl (Rl gU rfl (Rm rfl (Rl gU rfl (Rc rfl (Kz K3 (Cd rfl ?_ ?_)))))))) <;> clear H K1 K3
 ·intro h10 a H
  try have jd:=dT h10
  exact kP H (SR fun _ K4=>aj K4 rfl (LR results102 rfl fun H=>H.rt (gK (nk fun e=>absurd (cO List.length e) (by omega)).symm)))
 intro h10 a H
 try have jd:=dF h10
 refine kP H (Kc K2 (SQ fun _ K5=>SR fun _ K6=>Rm rfl (Rl gU rfl (Rm rfl (Kz K6 (SB ?_))))));clear H K2 K6;intro a H;skip;refine fF (ι:=Nat × GH) (Tc:=[(0,_),(1,_),(12,_)]) (Lc:=[]) (fun gh=>[(13,vi gh.1)]) (fun gh=>[]) (fun gh=>gh.2) (fun gh=>gh.1<=A.length∧A.take gh.1=B.take gh.1∧(∀ b o,G b=some o->gh.2 b=some o)) (fun gh=>A.length - gh.1) ((0,G)) (by exact H.sub ⟨rfl,rfl,rfl,rfl,ay⟩) ?_ ?_
 ·exact rW
 clear H;rintro ⟨k,g⟩ a w hI H;dsimp only at hI H;obtain ⟨hk,hsame,hgm⟩:=hI;dsimp only [lca,bM] at H;refine kP H (SR fun _ K7=>Rc rfl (Kz K7 (SQ fun _ K8=>Cd rfl ?_ ?_))) <;> clear H K7
 ·intro dU a H
  try have kU:=dT dU
  have hk2:k < A.length:=by omega
  have hk3:k < B.length:=by omega
  obtain ⟨b1,o1,cs1,rfl,AX,oD,hr1⟩:=hg k A[k].dat (by simp [hk2]);obtain rfl:=RG hr1;obtain ⟨b2,o2,cs2,rfl,AY,hrow2,hr2⟩:=hh k B[k].dat (by simp [hk3]);obtain rfl:=RG hr2;refine kP H (Kc K8 (SQ fun _ K9=>SB (SR fun _ aS=>Rm rfl (aj aS rfl (SQ fun _ bH=>?_)))));clear H K8 aS;intro a H;refine dI hmx [[],[],[0,1],[0,1,2],[],[],[4,5],[4,5,6],ra 0 8] [] (by kernel_rfl) [_,_,_,.agg A[k].cells.toArray,_,_,_,.agg B[k].cells.toArray,.bool (!decide (A[k]=B[k]))] H (aC (Z0 rfl (Rm rfl)) (Z0 rfl (Rm rfl)) (Z2 0 16 1 17 rfl (Ri gU iw rfl rfl)) ?_ (aC (Z0 rfl (Rm rfl)) (Z0 rfl (Rm rfl)) (Z2 4 20 5 21 rfl (Ri gU iw rfl rfl)) ?_ (bP ?_ dH))) ?_
  ·refine eY 2 18 rfl rfl fun _ a w G1 hG HT H fin=>?_;refine aV iw (cs:=A[k].cells) H wn rfl rfl (fun j v hj=>H.hp.aI (aF hG (aF hgm (oD j v hj)))) rfl ?_;clear H;intro a H;exact dZ
  ·refine eY 6 22 rfl rfl fun _ a w G1 hG HT H fin=>?_;refine aV iw (cs:=B[k].cells) H wn rfl rfl (fun j v hj=>H.hp.aI (aF hG (aF hgm (hrow2 j v hj)))) rfl ?_;clear H;intro a H;exact dZ
  ·refine dO 3 19 7 23 rfl rfl fun _ a w G1 hG HT H fin=>?_;refine Yv (.inr rfl) anZ H wn rfl rfl rfl rfl ?_;clear H;intro a H;exact fin H iJ (gK (atp A[k] B[k]))
  clear H;intro a w G jU H hv;have H:=H.aN (hv 8 24 rfl rfl) rfl;clear hv;refine aB ⟨rfl,?_⟩;refine bH _ _ ?_;clear bH;refine jr H rfl ?_ ?_
  ·intro bS
   exact kP H (SR fun _ bT=>aj bT rfl (LR results102 rfl fun H=>H.rt (gK (nk fun e=>absurd bS (by subst e;simp)).symm)))
  intro bS
  try have jP:=dF bS
  have hsm:A[k]=B[k]:=by simpa using bS
  refine kP H (Kc K9 (SC (Rd rfl (Rm rfl ?_))));clear H K9;intro a H;refine aB ?_;refine dJ ((k+1,G)) (by exact H.sub ⟨rfl,rfl,rfl,rfl,ay⟩) ?_
  (try dsimp only);exact Gp
 intro dU a H
 try have kU:=dF dU
 refine eu ?_;refine K5 _ _ ?_;clear K5;exact kP H (SR fun _ cK=>aj cK rfl (LR results102 rfl fun H=>H.rt (gK (mM (by rw [jm (by omega),jm (by omega)] at hsame;exact hsame)).symm)))
theorem anE (G:GH) (w0:World) (hG:Hold G w0) (A B:List gJ) (v u:ah) (hv:ak G (.sl 2 (A.map gJ.dat)) v) (hu:ak G (.sl 2 (B.map gJ.dat)) u) :
  Calls prog 103 #[v,u] w0 (bE w0 G fun r G'=>r=.bool (decide (A=B))):=by
 obtain ⟨vA,vc,rfl,hc1,hc2,hg⟩:=hv.slice;obtain ⟨uA,uc,rfl,hd1,hd2,hh⟩:=hu.slice;have hml:maxLen=9223372036854775807:=rfl;(iterate 2 rw [bQ] at *);refine eN [(0,_),(1,_)] func103 rfl ntmps103 rfl rfl hG ?_;intro a H;refine kP H (SR fun _ K1=>aj K1 rfl (SQ fun _ K2=>SR fun _ K3=>Rm rfl (Rl oJ rfl (Rm rfl (Rl oJ rfl (Rc rfl (Kz K3 (Cd rfl ?_ ?_)))))))) <;> clear H K1 K3
 ·intro h10 a H
  try have jd:=dT h10
  exact kP H (SR fun _ K4=>aj K4 rfl (LR results103 rfl fun H=>H.rt (gK (nk fun e=>absurd (cO List.length e) (by omega)).symm)))
 intro h10 a H
 try have jd:=dF h10
 refine kP H (Kc K2 (SQ fun _ K5=>SR fun _ K6=>Rm rfl (Rl oJ rfl (Rm rfl (Kz K6 (SB ?_))))));clear H K2 K6;intro a H;skip;refine fF (ι:=Nat × GH) (Tc:=[(0,_),(1,_),(12,_)]) (Lc:=[]) (fun gh=>[(13,vi gh.1)]) (fun gh=>[]) (fun gh=>gh.2) (fun gh=>gh.1<=A.length∧A.take gh.1=B.take gh.1∧(∀ b o,G b=some o->gh.2 b=some o)) (fun gh=>A.length - gh.1) ((0,G)) (by exact H.sub ⟨rfl,rfl,rfl,rfl,ay⟩) ?_ ?_
 ·exact rW
 clear H;rintro ⟨k,g⟩ a w hI H;dsimp only at hI H;obtain ⟨hk,hsame,hgm⟩:=hI;dsimp only [lca,bM] at H;refine kP H (SR fun _ K7=>Rc rfl (Kz K7 (SQ fun _ K8=>Cd rfl ?_ ?_))) <;> clear H K7
 ·intro dU a H
  try have kU:=dT dU
  have hk2:k < A.length:=by omega
  have hk3:k < B.length:=by omega
  obtain ⟨b1,o1,cs1,rfl,AX,oD,hr1⟩:=hg k A[k].dat (by simp [hk2]);obtain rfl:=Ms hr1;obtain ⟨b2,o2,cs2,rfl,AY,hrow2,hr2⟩:=hh k B[k].dat (by simp [hk3]);obtain rfl:=Ms hr2;refine kP H (Kc K8 (SQ fun _ K9=>SB (SR fun _ aS=>Rm rfl (aj aS rfl (SQ fun _ bH=>?_)))));clear H K8 aS;intro a H;refine dI hmx [[],[],[0,1],[0,1,2],[],[],[4,5],[4,5,6],ra 0 8] [] (by kernel_rfl) [_,_,_,.agg A[k].cells.toArray,_,_,_,.agg B[k].cells.toArray,.bool (!decide (A[k]=B[k]))] H (aC (Z0 rfl (Rm rfl)) (Z0 rfl (Rm rfl)) (Z2 0 16 1 17 rfl (Ri oJ oI rfl rfl)) ?_ (aC (Z0 rfl (Rm rfl)) (Z0 rfl (Rm rfl)) (Z2 4 20 5 21 rfl (Ri oJ oI rfl rfl)) ?_ (bP ?_ dH))) ?_
  ·refine eY 2 18 rfl rfl fun _ a w G1 hG HT H fin=>?_;refine aV oI (cs:=A[k].cells) H wn rfl rfl (fun j v hj=>H.hp.aI (aF hG (aF hgm (oD j v hj)))) rfl ?_;clear H;intro a H;exact dZ
  ·refine eY 6 22 rfl rfl fun _ a w G1 hG HT H fin=>?_;refine aV oI (cs:=B[k].cells) H wn rfl rfl (fun j v hj=>H.hp.aI (aF hG (aF hgm (hrow2 j v hj)))) rfl ?_;clear H;intro a H;exact dZ
  ·refine dO 3 19 7 23 rfl rfl fun _ a w G1 hG HT H fin=>?_;refine Yv (.inr rfl) anX H wn rfl rfl rfl rfl ?_;clear H;intro a H;exact fin H iJ (gK (atn A[k] B[k]))
  clear H;intro a w G jU H hv;have H:=H.aN (hv 8 24 rfl rfl) rfl;clear hv;refine aB ⟨rfl,?_⟩;refine bH _ _ ?_;clear bH;refine jr H rfl ?_ ?_
  ·intro bS
   exact kP H (SR fun _ bT=>aj bT rfl (LR results103 rfl fun H=>H.rt (gK (nk fun e=>absurd bS (by subst e;simp)).symm)))
  intro bS
  try have jP:=dF bS
  have hsm:A[k]=B[k]:=by simpa using bS
  refine kP H (Kc K9 (SC (Rd rfl (Rm rfl ?_))));clear H K9;intro a H;refine aB ?_;refine dJ ((k+1,G)) (by exact H.sub ⟨rfl,rfl,rfl,rfl,ay⟩) ?_
  (try dsimp only);exact Gp
 intro dU a H
 try have kU:=dF dU
 refine eu ?_;refine K5 _ _ ?_;clear K5;exact kP H (SR fun _ cK=>aj cK rfl (LR results103 rfl fun H=>H.rt (gK (mM (by rw [jm (by omega),jm (by omega)] at hsame;exact hsame)).symm)))
theorem anK (G:GH) (w0:World) (hG:Hold G w0) (A B:List bZ) (v u:ah) (hv:ak G (.sl 4 (A.map bZ.dat)) v) (hu:ak G (.sl 4 (B.map bZ.dat)) u) :
  Calls prog 104 #[v,u] w0 (bE w0 G fun r G'=>r=.bool (decide (A=B))):=by
 obtain ⟨vA,vc,rfl,hc1,hc2,hg⟩:=hv.slice;obtain ⟨uA,uc,rfl,hd1,hd2,hh⟩:=hu.slice;have hml:maxLen=9223372036854775807:=rfl;(iterate 2 rw [bQ] at *);refine eN [(0,_),(1,_)] func104 rfl ntmps104 rfl rfl hG ?_;intro a H;refine kP H (SR fun _ K1=>aj K1 rfl (SQ fun _ K2=>SR fun _ K3=>Rm rfl (Rl kW rfl (Rm rfl (Rl kW rfl (Rc rfl (Kz K3 (Cd rfl ?_ ?_)))))))) <;> clear H K1 K3
 ·intro h10 a H
  try have jd:=dT h10
  exact kP H (SR fun _ K4=>aj K4 rfl (LR results104 rfl fun H=>H.rt (gK (nk fun e=>absurd (cO List.length e) (by omega)).symm)))
 intro h10 a H
 try have jd:=dF h10
 refine kP H (Kc K2 (SQ fun _ K5=>SR fun _ K6=>Rm rfl (Rl kW rfl (Rm rfl (Kz K6 (SB ?_))))));clear H K2 K6;intro a H;skip;refine fF (ι:=Nat × GH) (Tc:=[(0,_),(1,_),(12,_)]) (Lc:=[]) (fun gh=>[(13,vi gh.1)]) (fun gh=>[]) (fun gh=>gh.2) (fun gh=>gh.1<=A.length∧A.take gh.1=B.take gh.1∧(∀ b o,G b=some o->gh.2 b=some o)) (fun gh=>A.length - gh.1) ((0,G)) (by exact H.sub ⟨rfl,rfl,rfl,rfl,ay⟩) ?_ ?_
 ·exact rW
 clear H;rintro ⟨k,g⟩ a w hI H;dsimp only at hI H;obtain ⟨hk,hsame,hgm⟩:=hI;dsimp only [lca,bM] at H;refine kP H (SR fun _ K7=>Rc rfl (Kz K7 (SQ fun _ K8=>Cd rfl ?_ ?_))) <;> clear H K7
 ·intro dU a H
  try have kU:=dT dU
  have hk2:k < A.length:=by omega
  have hk3:k < B.length:=by omega
  obtain ⟨b1,o1,cs1,rfl,AX,oD,hr1⟩:=hg k A[k].dat (by simp [hk2]);obtain rfl:=XA hr1;obtain ⟨b2,o2,cs2,rfl,AY,hrow2,hr2⟩:=hh k B[k].dat (by simp [hk3]);obtain rfl:=XA hr2;refine kP H (Kc K8 (SQ fun _ K9=>SB (SR fun _ aS=>Rm rfl (aj aS rfl (SQ fun _ bH=>?_)))));clear H K8 aS;intro a H;refine dI hmx [[],[],[0,1],[0,1,2],[],[],[4,5],[4,5,6],ra 0 8] [] (by kernel_rfl) [_,_,_,.agg A[k].cells.toArray,_,_,_,.agg B[k].cells.toArray,.bool (!decide (A[k]=B[k]))] H (aC (Z0 rfl (Rm rfl)) (Z0 rfl (Rm rfl)) (Z2 0 16 1 17 rfl (Ri kW jB rfl rfl)) ?_ (aC (Z0 rfl (Rm rfl)) (Z0 rfl (Rm rfl)) (Z2 4 20 5 21 rfl (Ri kW jB rfl rfl)) ?_ (bP ?_ dH))) ?_
  ·refine eY 2 18 rfl rfl fun _ a w G1 hG HT H fin=>?_;refine aV jB (cs:=A[k].cells) H wn rfl rfl (fun j v hj=>H.hp.aI (aF hG (aF hgm (oD j v hj)))) rfl ?_;clear H;intro a H;exact dZ
  ·refine eY 6 22 rfl rfl fun _ a w G1 hG HT H fin=>?_;refine aV jB (cs:=B[k].cells) H wn rfl rfl (fun j v hj=>H.hp.aI (aF hG (aF hgm (hrow2 j v hj)))) rfl ?_;clear H;intro a H;exact dZ
  ·refine dO 3 19 7 23 rfl rfl fun _ a w G1 hG HT H fin=>?_;refine Yv (.inr rfl) anY H wn rfl rfl rfl rfl ?_;clear H;intro a H;exact fin H iJ (gK (ato A[k] B[k]))
  clear H;intro a w G jU H hv;have H:=H.aN (hv 8 24 rfl rfl) rfl;clear hv;refine aB ⟨rfl,?_⟩;refine bH _ _ ?_;clear bH;refine jr H rfl ?_ ?_
  ·intro bS
   exact kP H (SR fun _ bT=>aj bT rfl (LR results104 rfl fun H=>H.rt (gK (nk fun e=>absurd bS (by subst e;simp)).symm)))
  intro bS
  try have jP:=dF bS
  have hsm:A[k]=B[k]:=by simpa using bS
  refine kP H (Kc K9 (SC (Rd rfl (Rm rfl ?_))));clear H K9;intro a H;refine aB ?_;refine dJ ((k+1,G)) (by exact H.sub ⟨rfl,rfl,rfl,rfl,ay⟩) ?_
  (try dsimp only);exact Gp
 intro dU a H
 try have kU:=dF dU
 refine eu ?_;refine K5 _ _ ?_;clear K5;exact kP H (SR fun _ cK=>aj cK rfl (LR results104 rfl fun H=>H.rt (gK (mM (by rw [jm (by omega),jm (by omega)] at hsame;exact hsame)).symm)))
theorem dN.eq_iff (a b:dN):(((a.props=b.props∧a.marks.ins=b.marks.ins)∧a.marks.move=b.marks.move)∧a.marks.bJ=b.marks.bJ)∧a.marks.layers=b.marks.layers↔a=b:=by
 obtain ⟨p,i,m,d,l⟩:=a;obtain ⟨p2,i2,m2,d2,l2⟩:=b
 simp [and_assoc]
instance:DecidableEq dN:=fun a b=>decidable_of_iff _ (dN.eq_iff a b)
abbrev sj (h:dN) (p d l:ah):ah:=.agg #[p,vi h.marks.ins,vi h.marks.move,d,l]
theorem JL (G:GH) (w0:World) (hG:Hold G w0) (x y:dN) (p d l p2 d2 l2:ah) (hx:jq G x p d l) (hy:jq G y p2 d2 l2) :
  Calls prog 52 #[sj x p d l,sj y p2 d2 l2] w0 (bE w0 G fun r G'=>r=.bool (decide (x=y))):=by
 obtain ⟨pA,pc,rfl,-,-,-⟩:=hx.props.slice;obtain ⟨dA,dc,rfl,-,-,-⟩:=hx.bJ.slice;obtain ⟨lA,lc,rfl,-,-,-⟩:=hx.layers.slice;obtain ⟨KM,pc2,rfl,-,-,-⟩:=hy.props.slice;obtain ⟨JD,JG,rfl,-,-,-⟩:=hy.bJ.slice;obtain ⟨lA2,lc2,rfl,-,-,-⟩:=hy.layers.slice;have he:=dN.eq_iff x y;refine eN [(0,_),(1,_)] func52 rfl ntmps52 rfl rfl hG ?_;intro a H;refine dz (fun _ K1=>?_);refine eB (cs:=[_,_,_,_,_]) H wn rfl rfl rfl ?_;clear H;intro b2 a w hb2 H;refine eB (cs:=[_,_,_,_,_]) H wn rfl rfl rfl ?_;clear H;intro b3 a w hb3 H;refine kH H (aj K1 rfl (SR fun _ K2=>bO yL tK 1 rfl rfl (bO yL tK 0 rfl rfl ?_)));clear H K1;intro a H;refine s_call abU H wn rfl (acy _ _ H.ro x.props y.props _ _ hx.props hy.props) rfl ?_;clear H;rintro v9 G9 a w rfl yS H;refine kH H (Rm rfl (Sp 10 rfl ?_ ?_)) <;> clear H
 ·intro h10 a H
  try have jd:=dT h10
  refine kH H (YF qp h10 rfl (YF sV h10 rfl (YO aG 1 h10 rfl (YF qp h10 rfl (YF sV h10 rfl (YO aG 0 h10 rfl (YC h10 rfl (Pt h10 rfl (Rm rfl (Sp 19 rfl ?_ ?_)))))))))) <;> clear H
  ·intro h19 a H
   try have tJ:=dT h19
   refine kH H (YF qp h19 rfl (YF Ch h19 rfl (YO aG 1 h19 rfl (YF qp h19 rfl (YF Ch h19 rfl (YO aG 0 h19 rfl (YC h19 rfl (Pt h19 rfl (Rm rfl (Sp 28 rfl ?_ ?_)))))))))) <;> clear H
   ·intro gD a H
    try have p28:=dT gD
    refine kH H (YF qp gD rfl (YF uj gD rfl (YO uD 1 gD rfl (YF qp gD rfl (YF uj gD rfl (YO uD 0 gD rfl ?_))))));clear H;intro a H;refine s_call akR H (wg H rfl rfl gD) rfl (anE _ _ H.ro x.marks.bJ y.marks.bJ _ _ (hx.bJ.mono yS) (hy.bJ.mono yS)) rfl ?_;clear H;rintro v35 Zu a w rfl adV H;refine kH H (Pt gD rfl (Rm rfl (Sp 37 rfl ?_ ?_))) <;> clear H
    ·intro h37 a H
     try have p37:=dT h37
     refine kH H (YF qp h37 rfl (YF Av h37 rfl (YO Bu 1 h37 rfl (YF qp h37 rfl (YF Av h37 rfl (YO Bu 0 h37 rfl ?_))))));clear H;intro a H;refine s_call akS H (wg H rfl rfl h37) rfl (anK _ _ H.ro x.marks.layers y.marks.layers _ _ ((hx.layers.mono yS).mono adV) ((hy.layers.mono yS).mono adV)) rfl ?_;clear H;rintro v44 Zw a w rfl M5 H;exact kH H (Pt h37 rfl (aj K2 rfl (LR results52 rfl fun H=>H.rt (gK (by simp_all)))))
    intro h37 a H
    try have p37:=dF h37
    exact kH H (aM h37 rfl (aJ h37 rfl (aJ h37 rfl (Pf h37 rfl (aj K2 rfl (LR results52 rfl fun H=>H.rt (gK (by simp_all))))))))
   intro gD a H
   try have p28:=dF gD
   exact kH H (aM gD rfl (aJ gD rfl (aJ gD rfl (Pf gD rfl (Rm rfl (aM rfl rfl (aJ rfl rfl (aJ rfl rfl (Pf rfl rfl (aj K2 rfl (LR results52 rfl fun H=>H.rt (gK (by simp_all)))))))))))))
  intro h19 a H
  try have tJ:=dF h19
  exact kH H (aM h19 rfl (aJ h19 rfl (aJ h19 rfl (Pf h19 rfl (Rm rfl (aM rfl rfl (aJ rfl rfl (aJ rfl rfl (Pf rfl rfl (Rm rfl (aM rfl rfl (aJ rfl rfl (aJ rfl rfl (Pf rfl rfl (aj K2 rfl (LR results52 rfl fun H=>H.rt (gK (by simp_all))))))))))))))))))
 intro h10 a H
 try have jd:=dF h10
 exact kH H (aM h10 rfl (aJ h10 rfl (aJ h10 rfl (Pf h10 rfl (Rm rfl (aM rfl rfl (aJ rfl rfl (aJ rfl rfl (Pf rfl rfl (Rm rfl (aM rfl rfl (aJ rfl rfl (aJ rfl rfl (Pf rfl rfl (Rm rfl (aM rfl rfl (aJ rfl rfl (aJ rfl rfl (Pf rfl rfl (aj K2 rfl (LR results52 rfl fun H=>H.rt (gK (by simp_all)))))))))))))))))))))))
def rC:Nat->List bZ->List (Int × List bZ)
 | 0,_=>[]
 | _+1,[]=>[]
 | f+1,y :: r=>(y.key,y :: r.takeWhile fun z=>decide (z.key=y.key)) :: rC f (r.dropWhile fun z=>decide (z.key=y.key))
def iZ (acc:Int->Bool):List bZ->Nat->Nat->Nat
 | [],_,c=>c
 | y :: r,k,c=>iZ acc r (k+1) (if acc y.rev=true then k+1 else c)
def uy (rej:Int->Bool) (yu:List (Int × Bool)):List bZ->Nat->Int × Bool->List bZ × (Int × Bool)
 | [],_,now=>([],now)
 | y :: r,k,now=>if rej y.rev=true then uy rej yu r (k+1) now else
  let q:=uy rej yu r (k+1) (yu.getD (k+1) (0,false))
  (⟨y.rev,y.key,now.1,now.2⟩ :: q.1,q.2)
def qg (props:List aL) (key:Int) (l:List bZ):List (Int × Bool):=l.map (fun y=>(y.before,y.had))++[jE props key]
def lY (acc rej:Int->Bool) (props:List aL) (key:Int) (l:List bZ):List bZ × (Int × Bool) :=
 uy rej (qg props key l) (l.drop (iZ acc l 0 0)) (iZ acc l 0 0) ((qg props key l).getD (iZ acc l 0 0) (0,false))
def vB (l:List aL) (k:Int) (s:Int × Bool):List aL:=if s.2=true then Bt l k s.1 else Aq l k
def ug (acc rej:Int->Bool) (props:List aL):List (Int × List bZ)->List aL × List bZ->List aL × List bZ
 | [],s=>s
 | (k,l) :: r,s=>ug acc rej props r (vB s.1 k (lY acc rej props k l).2,s.2++(lY acc rej props k l).1)
def lG (acc rej:Int->Bool) (h:dN):Prop:=(h.marks.ins≠0∧rej h.marks.ins=true)∨∃ x∈h.marks.bJ,acc x.rev=true
instance (acc rej:Int->Bool) (h:dN):Decidable (lG acc rej h):=inferInstanceAs (Decidable (_∨_))
def jV (acc:Int->Bool) (h:dN):Prop:=h.marks.ins≠0∧acc h.marks.ins=true
instance (acc:Int->Bool) (h:dN):Decidable (jV acc h):=inferInstanceAs (Decidable (_∧_))
def iH (acc rej:Int->Bool) (h:dN):dN :=
 let q:=ug acc rej h.props (rC h.marks.layers.length h.marks.layers) (h.props,[])
 ⟨q.1,⟨if jV acc h then 0 else h.marks.ins,if jV acc h then 0 else h.marks.move,h.marks.bJ.filter fun x=>!rej x.rev,q.2⟩⟩
def Bz:dN:=⟨[],⟨0,0,[],[]⟩⟩
def aad (b:Bool) (h:dN) (u:ah) (G:GH):Prop:=∃ p d l,u=.tuple #[sj h p d l,.bool b]∧jq G h p d l
theorem aic (G:GH):jq G Bz (.slice none 0 0) (.slice none 0 0) (.slice none 0 0):=⟨ak.oQ rfl (by decide),ak.oQ rfl (by decide),ak.oQ rfl (by decide)⟩
theorem awo (l:List aL) (k v:Int):(Bt l k v).length<=l.length+1:=by
 unfold Bt;split
 ·rw [List.length_set];omega
 have:=EI (l.map aL.key) k;rw [bQ] at this
 simp only [jM,List.length_take,lg,List.length_drop];omega
theorem akm (l:List aL) (k:Int):(Aq l k).length<=l.length:=by
 unfold Aq;split
 ·have:=EI (l.map aL.key) k;rw [bQ] at this
  simp only [jM,List.length_take,List.length_drop];omega
 exact eP _
theorem ahO (l:List aL) (k:Int) (s:Int × Bool):(vB l k s).length<=l.length+1:=by
 unfold vB;split
 ·exact awo _ _ _
 have:=akm l k;omega
theorem ada (acc:Int->Bool):∀ (l:List bZ) (k c:Nat),c<=k->iZ acc l k c<=k+l.length
 | [],k,c,h=>by rw [iZ];simpa using h
 | y :: r,k,c,h=>by
  rw [iZ]
  have:=ada acc r (k+1) (if acc y.rev=true then k+1 else c) (by split <;> omega)
  simp only [lg];omega
theorem Xy (rej:Int->Bool) (yu:List (Int × Bool)):∀ (l:List bZ) (k:Nat) (now:Int × Bool),(uy rej yu l k now).1.length<=l.length
 | [],_,_=>by rw [uy];exact eP _
 | y :: r,k,now=>by
  rw [uy];split
  ·have:=Xy rej yu r (k+1) now;simp only [lg];omega
  have:=Xy rej yu r (k+1) (yu.getD (k+1) (0,false));simp only [lg];omega
theorem Vz (acc rej:Int->Bool) (props:List aL) (key:Int) (l:List bZ):(lY acc rej props key l).1.length<=l.length:=by
 have:=Xy rej (qg props key l) (l.drop (iZ acc l 0 0)) (iZ acc l 0 0) ((qg props key l).getD (iZ acc l 0 0) (0,false));rw [List.length_drop] at this
 unfold lY;omega
theorem Hl:∀ (f:Nat) (l:List bZ),l.length<=f->(rC f l).flatMap Prod.snd=l∧∀ q∈rC f l,q.2≠[]
 | 0,l,h=>by
  have:l=[]:=List.eq_nil_of_length_eq_zero (by omega);subst this;exact ⟨rfl,fun q hq=>by cases hq⟩
 | f+1,[],_=>⟨rfl,fun q hq=>by cases hq⟩
 | f+1,y :: r,h=>by
  have h2:(r.dropWhile fun z=>decide (z.key=y.key)).length<=f:=by
   have:=(List.dropWhile_sublist (l:=r) fun z=>decide (z.key=y.key)).length_le
   simp only [lg] at h;omega
  obtain ⟨e1,e2⟩:=Hl f _ h2;rw [rC];refine ⟨?_,fun q hq=>?_⟩
  ·rw [List.flatMap_cons,e1]
   show (y :: _)++_=_
   rw [pG,List.takeWhile_append_dropWhile]
  rcases iy.1 hq with rfl|hq
  ·exact List.cons_ne_nil _ _
  exact e2 q hq
theorem YE:Jf prog 172:=⟨by kernel_rfl⟩
theorem ajx:prog.cellsOf 5=1:=by kernel_rfl
theorem atv (v:ah) (w:World):(callFunc 210 #[v]).run prog w=.ok (.value v) w:=avv func210 (by kernel_rfl) (by kernel_rfl) (by kernel_rfl) (by kernel_rfl) v w
theorem Og:prog.underlying 169=some (.pointer 172):=by kernel_rfl
theorem ahu:prog.underlying 280=some .unsafePointer:=by kernel_rfl
theorem MC:dX prog 172 0 0:=⟨by kernel_rfl⟩
theorem Ob:Ty prog 169 1 8 [.pointer none] false:=⟨by kernel_rfl,by kernel_rfl⟩
theorem alx:aQ 154:=aR func154 rfl
theorem IY:prog.underlying 170=some (.slice 5):=by kernel_rfl
theorem JQ:dX prog 172 1 1:=⟨by kernel_rfl⟩
theorem KX:Ty prog 170 1 24 [.slice none 0 0] false:=⟨by kernel_rfl,by kernel_rfl⟩
theorem axn:prog.underlying 231=some (.pointer 5):=by kernel_rfl
theorem iQ:Ty prog 49 1 8 [.int .i64 0] false:=⟨by kernel_rfl,by kernel_rfl⟩
theorem rQ:prog.underlying 203=some (.slice 49):=by kernel_rfl
theorem yI:aQ 128:=aR func128 rfl
theorem yV (G:GH) (w0:World) (hG:Hold G w0) (n l h:Int):Calls prog 128 #[vi n,vi l,vi h] w0 (bE w0 G fun u G'=>u=.bool (decide (l<=n∧n<=h))∧G=G'):=by
 refine eN [(0,_),(1,_),(2,_)] func128 rfl ntmps128 rfl rfl hG ?_;intro a H;refine kP H (SR fun _ K1=>aj K1 rfl (SR fun _ K2=>Rm rfl (Rm rfl (Rc rfl (Rm rfl (Sp 10 rfl ?_ ?_)))))) <;> clear H K1
 ·intro h10 a H
  try have jd:=dT h10
  exact kH H (YM h10 rfl (YM h10 rfl (YC h10 rfl (Pt h10 rfl (aj K2 rfl (LR results128 rfl fun H=>H.rt ⟨gK (by first|(simp_all;done)|(simp_all;omega)),rfl⟩))))))
 intro h10 a H
 try have jd:=dF h10
 exact kH H (aM h10 rfl (Pf h10 rfl (aj K2 rfl (LR results128 rfl fun H=>H.rt ⟨gK (by first|(simp_all;done)|(simp_all;omega)),rfl⟩))))
def dG (b:Bool) (e:Int):Int:=if b=true then e else 0
theorem kF (G:GH) (w0:World) (hG:Hold G w0) (b:Bool) (e:Int):Calls prog 71 #[.bool b,vi e] w0 (bE w0 G fun u G'=>u=vi (dG b e)∧G=G'):=by
 refine eN [(0,_),(1,_)] func71 rfl ntmps71 rfl rfl hG ?_;intro a H;refine kP H (SR fun _ K1=>aj K1 rfl (SQ fun _ K2=>SR fun _ K3=>Rm rfl (Kz K3 (Cd rfl ?_ ?_)))) <;> clear H K1 K3
 ·intro h5 a H
  try have p5:=dT h5
  exact kP H (SR fun _ K4=>Rm rfl (aj K4 rfl (LR results71 rfl fun H=>H.rt ⟨cO vi (by simp_all [dG]),rfl⟩)))
 intro h5 a H
 try have p5:=dF h5
 exact kP H (Kc K2 (SR fun _ K5=>aj K5 rfl (LR results71 rfl fun H=>H.rt ⟨cO vi (by simp_all [dG]),rfl⟩)))
def dS:List Int->Int
 | []=>0
 | e :: r=>if e≠0 then e else dS r
theorem Qi {l:List Int} {k:Nat} (h:k < l.length):dS (l.drop k)=if l[k]≠0 then l[k] else dS (l.drop (k+1)):=by
 rw [rU h,dS]
theorem sW (G:GH) (w0:World) (hG:Hold G w0) (l:List Int) (v:ah) (hv:ak G (.sl 1 (l.map fun k=>[li k])) v) :
  Calls prog 66 #[v] w0 (bE w0 G fun u G'=>u=vi (dS l)∧G=G'):=by
 obtain ⟨A,c,rfl,hc1,hc2,hg⟩:=hv.slice;have hml:maxLen=9223372036854775807:=rfl;rw [bQ] at *;refine eN [(0,_)] func66 rfl ntmps66 rfl rfl hG ?_;intro a H;refine kP H (SR fun _ K1=>aj K1 rfl (SQ fun _ K2=>SR fun _ K3=>Rm rfl (Rl rQ rfl (Rm rfl (Kz K3 (SB ?_))))));clear H K1 K3;intro a H;skip;refine fF (ι:=Nat) (Tc:=[(5,_),(6,_)]) (Lc:=[]) (fun gh=>[(7,vi gh)]) (fun gh=>[]) (fun gh=>G) (fun gh=>gh<=l.length∧dS (l.drop gh)=dS l) (fun gh=>l.length - gh) (0) (by exact H.sub ⟨rfl,rfl,rfl,ay⟩) ?_ ?_
 ·exact Jp
 clear H;intro k a w hI H;obtain ⟨hk,he⟩:=hI;dsimp only [lca,bM] at H;refine kP H (SR fun _ K4=>Rc rfl (Kz K4 (SQ fun _ K5=>Cd rfl ?_ ?_))) <;> clear H K4
 ·intro h8 a H
  try have p8:=dT h8
  have hk2:k < l.length:=by omega
  obtain ⟨b,o,cs,rfl,hcl,hrow,hr⟩:=hg k [li l[k]] (by simp [hk2]);obtain ⟨v1,_,rfl,⟨rfl,-⟩,rfl⟩:∃ v vs,cs=v :: vs∧ak G (li l[k]) v∧bD G [] vs:=hr
  have hcell:aI G b (o+k*1)=some (vi l[k]):=by simpa using hrow 0 _ rfl
  refine kP H (Kc K5 (SQ fun _ K6=>SB (SR fun _ K7=>Ri rQ iQ rfl rfl (Rg iQ rfl hcell (aj K7 rfl (SR fun _ K8=>Rm rfl (Rc rfl (Kz K8 (Cd rfl ?_ ?_))))))))) <;> clear H K5 K7 K8
  ·intro h12 a H
   try have rM:=dT h12
   exact kP H (SR fun _ K9=>Rm rfl (aj K9 rfl (LR results66 rfl fun H=>H.rt ⟨cO vi (by rw [Qi hk2,aD rM] at he;exact he),rfl⟩)))
  intro h12 a H
  try have rM:=dF h12
  refine kP H (Kc K6 (SC (Rd rfl (Rm rfl ?_))));clear H K6;intro a H;refine aB ?_;refine dJ ((k+1)) (by exact H.sub ⟨rfl,rfl,rfl,ay⟩) ?_
  exact ⟨by omega,by rw [Qi hk2,av rM] at he;exact he⟩
 intro h8 a H
 try have p8:=dF h8
 refine eu ?_;refine K2 _ _ ?_;clear K2;exact kP H (SR fun _ aS=>aj aS rfl (LR results66 rfl fun H=>H.rt ⟨cO vi (by rw [tX (by omega)] at he;exact he),rfl⟩))
def vC (fv:ah) (Gi:GH) (n:Nat) (E:Nat->Int):Prop:=∀ i,i < n->∀ (G1:GH) (w1:World),(∀ b o,Gi b=some o->G1 b=some o)->Hold G1 w1->sK prog fv [vi i] w1 (bE w1 G1 fun u G'=>u=vi (E i))
theorem vC.mono {fv:ah} {G G':GH} {n:Nat} {E:Nat->Int} (h:vC fv G n E) (hm:∀ b o,G b=some o->G' b=some o):vC fv G' n E:=fun i hi G1 w1 hG1=>h i hi G1 w1 fun b o hb=>hG1 b o (hm b o hb)
def iW (E:Nat->Int) (n:Nat):Int:=dS ((List.range n).map E)
theorem Gg {E:Nat->Int} {n k:Nat} (h:k < n):dS (((List.range n).map E).drop k)=if E k≠0 then E k else dS (((List.range n).map E).drop (k+1)):=by
 rw [Qi (by simpa using h)];simp
theorem aaw {p:Prop} (h:p:=by
 exact ⟨by omega,by rw [Gg hk2,av tF] at he;exact he,fun b o h=>M0 b o (hgm b o h)⟩):p:=h
theorem LU (G:GH) (w0:World) (hG:Hold G w0) (n:Nat) (E:Nat->Int) (fv:ah) (hn:n<=4611686018427387904) (hf:vC fv G n E) :
  Calls prog 123 #[vi n,fv] w0 (bE w0 G fun u G'=>u=vi (iW E n)):=by
 refine eN [(0,_),(1,_)] func123 rfl ntmps123 rfl rfl hG ?_;intro a H;refine kP H (SR fun _ K1=>aj K1 rfl (SQ fun _ K2=>SR fun _ K3=>Rm rfl (Rm rfl (Kz K3 (SB ?_)))));clear H K1 K3;intro a H;skip;refine fF (ι:=Nat × GH) (Tc:=[(1,_),(7,_)]) (Lc:=[]) (fun gh=>[(8,vi gh.1)]) (fun gh=>[]) (fun gh=>gh.2) (fun gh=>gh.1<=n∧dS (((List.range n).map E).drop gh.1)=iW E n∧(∀ b o,G b=some o->gh.2 b=some o)) (fun gh=>n - gh.1) ((0,G)) (by exact H.sub ⟨rfl,rfl,rfl,ay⟩) ?_ ?_
 ·exact EF
 clear H;rintro ⟨k,g⟩ a w hI H;dsimp only at hI H;obtain ⟨hk,he,hgm⟩:=hI;dsimp only [lca,bM] at H;refine kP H (SR fun _ K4=>Rc rfl (Kz K4 (SQ fun _ K5=>Cd rfl ?_ ?_))) <;> clear H K4
 ·intro h9 a H
  try have p9:=dT h9
  have hk2:k < n:=by omega
  refine kP H (Kc K5 (SQ fun _ K6=>SB (SR fun _ K7=>Rm rfl (aj K7 rfl (SR fun _ K8=>Rm rfl (Rm rfl ?_))))));clear H K5 K7;intro a H;refine jJ H wn rfl rfl (hf k hk2 _ _ hgm H.ro) rfl ?_;clear H;rintro v13 I7 a w rfl M0 H;refine kH H (aj K8 rfl (SR fun _ K9=>Rm rfl (Rc rfl (Kz K9 (Cd rfl ?_ ?_))))) <;> clear H K8 K9
  ·intro jN a H
   try have tF:=dT jN
   exact kP H (SR fun _ aS=>Rm rfl (aj aS rfl (LR results123 rfl fun H=>H.rt (cO vi (by rw [Gg hk2,aD tF] at he;exact he)))))
  intro jN a H
  try have tF:=dF jN
  refine kP H (Kc K6 (SC (Rd rfl (Rm rfl ?_))));clear H K6;intro a H;refine aB ?_;refine dJ ((k+1,I7)) (by exact H.sub ⟨rfl,rfl,rfl,ay⟩) ?_
  (try dsimp only);exact aaw
 intro h9 a H
 try have p9:=dF h9
 refine eu ?_;refine K2 _ _ ?_;clear K2;exact kP H (SR fun _ bH=>aj bH rfl (LR results123 rfl fun H=>H.rt (cO vi (by rw [tX (by simp;omega)] at he;exact he))))
def wW (id:Nat->Int) (i:Nat):Int:=if ¬ (1<=id i∧id i<=1073741824) then 18 else if 0 < i∧id i=id (i - 1) then 7 else if 0 < i∧id i < id (i - 1) then 6 else 0
theorem EG {p:Prop} (h:p:=by
 exact H.rt (cO vi (by unfold wW;(repeat' split) <;> first|rfl|(exfalso;simp_all;done)|(exfalso;simp_all;omega)))):p:=h
theorem Xq (G:GH) (w0:World) (hG:Hold G w0) (i:Nat) (id:Nat->Int) (fv:ah) (hn:i<=4611686018427387904) (hf:vC fv G (i+1) id) :
  Calls prog 125 #[vi i,fv] w0 (bE w0 G fun u G'=>u=vi (wW id i)):=by
 refine eN [(0,_),(1,_)] func125 rfl ntmps125 rfl rfl hG ?_;intro a H;refine kP H (SR fun _ K1=>aj K1 rfl (SQ fun _ K2=>SB (SR fun _ K3=>Rm rfl (Rm rfl ?_))));clear H K1;intro a H;refine jJ H wn rfl rfl (hf i (Nat.lt_succ_self _) _ _ (fun _ _ h=>h) H.ro) rfl ?_;clear H;rintro v8 G8 a w rfl rF H;refine s_call yI H wn rfl (yV _ _ H.ro (id i) 1 1073741824) rfl ?_;clear H;rintro v9 _ a w ⟨rfl,rfl⟩ - H;refine kH H (Rn rfl (aj K3 rfl (Cd rfl ?_ ?_))) <;> clear H K3
 ·intro h5 a H
  try have p5:=dT h5
  refine kP H (SR fun _ K4=>aj K4 rfl ?_);clear H K4;intro a H;refine lr H results125 rfl ?_
  exact EG
 intro h5 a H
 try have p5:=dF h5
 refine kP H (SR fun _ K5=>Rm rfl (Rc rfl (Rm rfl (Sp 14 rfl ?_ ?_)))) <;> clear H
 ·intro dU a H
  try have kU:=dT dU
  refine kH H (YM dU rfl (YM dU rfl ?_));clear H;intro a H;refine jJ H (wg H rfl rfl dU) rfl rfl (hf i (Nat.lt_succ_self _) _ _ rF H.ro) rfl ?_;clear H;rintro v17 zu a w rfl sw H;refine kH H (YM dU rfl (YM dU rfl ?_));clear H;intro a H;refine nL _ H (wg H rfl rfl dU) rfl rfl rfl (by omega) (by omega) rfl ?_;clear H;intro a H;rw [show ((i:Int) - 1)=((i - 1:Nat):Int) by omega] at H;refine jJ H (wg H rfl rfl dU) rfl rfl (hf (i - 1) (by omega) _ _ (fun b o h=>sw b o (rF b o h)) H.ro) rfl ?_;clear H;rintro v21 Tg a w rfl Cw H;refine kH H (YC dU rfl (Pt dU rfl (aj K5 rfl (Cd rfl ?_ ?_)))) <;> clear H K5
  ·intro h11 a H
   try have sF:=dT h11
   refine kP H (SR fun _ K6=>aj K6 rfl ?_);clear H K6;intro a H;refine lr H results125 rfl ?_
   exact EG
  intro h11 a H
  try have sF:=dF h11
  refine kP H (SR fun _ K7=>Rm rfl (Rc rfl (Rm rfl (Sp 27 rfl ?_ ?_)))) <;> clear H
  ·intro h27 a H
   try have p27:=dT h27
   refine kH H (YM h27 rfl (YM h27 rfl ?_));clear H;intro a H;refine jJ H (wg H rfl rfl h27) rfl rfl (hf i (Nat.lt_succ_self _) _ _ (fun b o h=>by first|exact Cw b o (sw b o (rF b o h))|(exfalso;omega)) H.ro) rfl ?_;clear H;rintro v30 BG a w rfl E9 H;refine kH H (YM h27 rfl (YM h27 rfl ?_));clear H;intro a H;refine nL _ H (wg H rfl rfl h27) rfl rfl rfl (by omega) (by omega) rfl ?_;clear H;intro a H;rw [show ((i:Int) - 1)=((i - 1:Nat):Int) by omega] at H;refine jJ H (wg H rfl rfl h27) rfl rfl (hf (i - 1) (by omega) _ _ (fun b o h=>by first|exact E9 b o (Cw b o (sw b o (rF b o h)))|(exfalso;omega)) H.ro) rfl ?_;clear H;rintro v34 OQ a w rfl Kl H;refine kH H (YC h27 rfl (Pt h27 rfl (aj K7 rfl (Cd rfl ?_ ?_)))) <;> clear H K7
   ·intro bS a H
    try have jP:=dT bS
    refine kP H (SR fun _ K8=>aj K8 rfl ?_);clear H K8;intro a H;refine lr H results125 rfl ?_
    exact EG
   intro bS a H
   try have jP:=dF bS
   refine kP H (Kc K2 (SR fun _ K9=>aj K9 rfl ?_));clear H K2 K9;intro a H;refine lr H results125 rfl ?_
   exact EG
  intro h27 a H
  try have p27:=dF h27
  refine kH H (aM h27 rfl (aM h27 rfl (aJ h27 rfl (Pf h27 rfl (aj K7 rfl (Cf rfl rfl (Kc K2 (SR fun _ aS=>aj aS rfl ?_))))))));clear H K7 K2 aS;intro a H;refine lr H results125 rfl ?_
  exact EG
 intro dU a H
 try have kU:=dF dU
 refine kH H (aM dU rfl (aM dU rfl (aJ dU rfl (Pf dU rfl (aj K5 rfl (Cf rfl rfl (SR fun _ bH=>Rm rfl (Rc rfl (Rm rfl (Sp 27 rfl ?_ ?_)))))))))) <;> clear H K5
 ·intro h27 a H
  try have p27:=dT h27
  refine kH H (YM h27 rfl (YM h27 rfl ?_));clear H;intro a H;refine jJ H (wg H rfl rfl h27) rfl rfl (hf i (Nat.lt_succ_self _) _ _ (fun b o h=>by first|exact Cw b o (sw b o (rF b o h))|(exfalso;omega)) H.ro) rfl ?_;clear H;rintro v30 BG a w rfl E9 H;refine kH H (YM h27 rfl (YM h27 rfl ?_));clear H;intro a H;refine nL _ H (wg H rfl rfl h27) rfl rfl rfl (by omega) (by omega) rfl ?_;clear H;intro a H;rw [show ((i:Int) - 1)=((i - 1:Nat):Int) by omega] at H;refine jJ H (wg H rfl rfl h27) rfl rfl (hf (i - 1) (by omega) _ _ (fun b o h=>by first|exact E9 b o (Cw b o (sw b o (rF b o h)))|(exfalso;omega)) H.ro) rfl ?_;clear H;rintro v34 OQ a w rfl Kl H;refine kH H (YC h27 rfl (Pt h27 rfl (aj bH rfl (Cd rfl ?_ ?_)))) <;> clear H bH
  ·intro bS a H
   try have jP:=dT bS
   refine kP H (SR fun _ bT=>aj bT rfl ?_);clear H bT;intro a H;refine lr H results125 rfl ?_
   exact EG
  intro bS a H
  try have jP:=dF bS
  refine kP H (Kc K2 (SR fun _ cK=>aj cK rfl ?_));clear H K2 cK;intro a H;refine lr H results125 rfl ?_
  exact EG
 intro h27 a H
 try have p27:=dF h27
 refine kH H (aM h27 rfl (aM h27 rfl (aJ h27 rfl (Pf h27 rfl (aj bH rfl (Cf rfl rfl (Kc K2 (SR fun _ dB=>aj dB rfl ?_))))))));clear H bH K2 dB;intro a H;refine lr H results125 rfl ?_
 exact EG
theorem kr:aQ 71:=aR func71 rfl
theorem sU:aQ 66:=aR func66 rfl
def xH (s:ByteArray):Bool:=decide (1<=s.size∧s.size<=40) && sJ s
theorem aal (G:GH) (w0:World) (hG:Hold G w0) (s:ByteArray) (hs:s.size < 4611686018427387904):Calls prog 127 #[.string s] w0 (bE w0 G fun u G'=>u=.bool (xH s)∧G=G'):=by
 refine eN [(0,_)] func127 rfl ntmps127 rfl rfl hG ?_;intro a H;refine kP H (SR fun _ K1=>aj K1 rfl (SR fun _ K2=>Rm rfl (Rv iT rfl (Rc rfl (Rm rfl (Sp 6 rfl ?_ ?_)))))) <;> clear H K1
 ·intro h6 a H
  try have p6:=dT h6
  refine kH H (YM h6 rfl ?_);clear H;intro a H;refine FJ iT H (wg H rfl rfl h6) rfl rfl ?_;clear H;intro a H;refine kH H (YC h6 rfl (Pt h6 rfl (Rm rfl (Sp 11 rfl ?_ ?_)))) <;> clear H
  ·intro h11 a H
   try have sF:=dT h11
   refine kH H (YM h11 rfl ?_);clear H;intro a H;refine s_call Mv H (wg H rfl rfl h11) rfl (Ot _ _ H.ro s hs) rfl ?_;clear H;rintro v13 _ a w ⟨rfl,rfl⟩ - H;exact kH H (Pt h11 rfl (aj K2 rfl (LR results127 rfl fun H=>H.rt ⟨gK (by unfold xH;first|(simp_all;done)|(simp_all;omega)),rfl⟩)))
  intro h11 a H
  try have sF:=dF h11
  exact kH H (aJ h11 rfl (Pf h11 rfl (aj K2 rfl (LR results127 rfl fun H=>H.rt ⟨gK (by unfold xH;first|(simp_all;done)|(simp_all;omega)),rfl⟩))))
 intro h6 a H
 try have p6:=dF h6
 exact kH H (aM h6 rfl (Pf h6 rfl (Rm rfl (aJ rfl rfl (Pf rfl rfl (aj K2 rfl (LR results127 rfl fun H=>H.rt ⟨gK (by unfold xH;first|(simp_all;done)|(simp_all;omega)),rfl⟩)))))))
def En (s:ByteArray):Int:=dS [dG (!sJ s) 12,dG (decide (1024 < (s.size:Int))) 10]
theorem zZ {G:GH} {b:Nat} {x y:Int} (h:G b=some (.cells #[vi x,vi y] 49 (0,0))):ak G (.sl 1 ([x,y].map fun k=>[li k])) (.slice (some ⟨b,0,none⟩) 2 2) :=
 ak.vZ (n:=2) (cap:=2) h rfl (eP _) (show 2<=maxLen by decide) (jm (eP _)) (Fu G [x,y])
theorem YW (G:GH) (w0:World) (hG:Hold G w0) (s:ByteArray) (hs:s.size < 4611686018427387904):Calls prog 190 #[.string s] w0 (bE w0 G fun u G'=>u=vi (En s)):=by
 refine eN [(0,_)] func190 rfl ntmps190 rfl rfl hG ?_;intro a H;refine kP H (SR fun _ K1=>aj K1 rfl (SR fun _ K2=>Rm rfl ?_));clear H K1;intro a H;refine s_call Mv H wn rfl (Ot _ _ H.ro s hs) rfl ?_;clear H;rintro v4 _ a w ⟨rfl,rfl⟩ - H;refine kH H (Rn rfl ?_);clear H;intro a H;refine s_call kr H wn rfl (kF _ _ H.ro _ 12) rfl ?_;clear H;rintro v6 _ a w ⟨rfl,rfl⟩ - H;refine kH H (Rm rfl (Rv iT rfl (Rc rfl ?_)));clear H;intro a H;refine s_call kr H wn rfl (kF _ _ H.ro _ 10) rfl ?_;clear H;rintro v10 _ a w ⟨rfl,rfl⟩ - H;refine iV rQ iQ [_,_] [_,_] H wn rfl rfl rfl rfl rfl (by intro i q h;match i,h with|0,h=>exact h|1,h=>exact h|n+2,h=>simp at h) rfl rfl ?_;clear H;intro b11 a w J9 H;obtain ⟨uG,DU,Cn,H⟩:=H.fO;refine s_call sU H wn rfl (sW _ _ H.ro _ _ (zZ Cn)) rfl ?_;clear H;rintro v12 _ a w ⟨rfl,rfl⟩ - H;exact kH H (aj K2 rfl (LR results190 rfl fun H=>H.rt rfl))
def Q7 (c:Int):Bool:=decide (97<=xI .or .u8 c 32) && decide (xI .or .u8 c 32<=122)
def IG (c:Int):Bool:=(decide (48<=c) && decide (c<=57)) || decide (c=45) || decide (c=95)
def NH (s:ByteArray) (k:Nat):Bool:=Q7 (ig s k) || (decide (k≠0) && IG (ig s k))
def xO (s:ByteArray):Bool:=decide (1<=s.size∧s.size<=40) && (List.range s.size).all (NH s)
theorem Gq {p:Prop} (h:p:=by
 first|(simp_all;done)|(simp_all;omega)):p:=h
theorem TT {p:Prop} (h:p:=by
 first
  | exact H.rt ⟨gK (by
    unfold xO
    rw [show k=s.size by omega] at hall
    rw [hall,mM (by omega)];rfl),rfl⟩
  | exact H.rt ⟨gK (by
    unfold xO
    rw [show (List.range s.size).all (NH s)=false from List.all_eq_false.2 ⟨k,by simpa using hk2,by unfold NH;simp_all⟩,Bool.and_false]),rfl⟩):p:=h
theorem aax {p:Prop} (h:p:=by
 exact ⟨by omega,by rw [List.range_succ,List.all_append,hall];simp [NH];simp_all⟩):p:=h
theorem UA (G:GH) (w0:World) (hG:Hold G w0) (s:ByteArray) (hs:s.size < 4611686018427387904):Calls prog 192 #[.string s] w0 (bE w0 G fun u G'=>u=.bool (xO s)∧G=G'):=by
 refine eN [(0,_)] func192 rfl ntmps192 rfl rfl hG ?_;intro a H;refine kP H (SR fun _ K1=>aj K1 rfl (SQ fun _ K2=>SR fun _ K3=>Rm rfl (Rv iT rfl (Rc rfl (Rm rfl (Sp 10 rfl ?_ ?_)))))) <;> clear H K1
 ·intro h10 a H
  try have jd:=dT h10
  exact kH H (aM h10 rfl (Pt h10 rfl (Kz K3 (Ct rfl rfl (SR fun _ K4=>aj K4 rfl (LR results192 rfl fun H=>H.rt ⟨gK (by unfold xO;rw [nk (by omega)];rfl),rfl⟩))))))
 intro h10 a H
 try have jd:=dF h10
 refine kH H (YM h10 rfl ?_);clear H;intro a H;refine FJ iT H (wg H rfl rfl h10) rfl rfl ?_;clear H;intro a H;refine kH H (YC h10 rfl (Pf h10 rfl (Kz K3 (Cd rfl ?_ ?_)))) <;> clear H K3
 ·intro dU a H
  try have kU:=dT dU
  exact kP H (SR fun _ K5=>aj K5 rfl (LR results192 rfl fun H=>H.rt ⟨gK (by unfold xO;rw [nk (by omega)];rfl),rfl⟩))
 intro dU a H
 try have kU:=dF dU
 refine kP H (Kc K2 (SQ fun _ K6=>SR fun _ K7=>Rm rfl (Rv iT rfl (Rm rfl (Kz K7 (SB ?_))))));clear H K2 K7;intro a H;skip;refine fF (ι:=Nat) (Tc:=[(0,_),(16,_)]) (Lc:=[]) (fun gh=>[(17,vi gh)]) (fun gh=>[]) (fun gh=>G) (fun gh=>gh<=s.size∧(List.range gh).all (NH s)=true) (fun gh=>s.size - gh) (0) (by exact H.sub ⟨rfl,rfl,rfl,ay⟩) ?_ ?_
 ·exact Jp
 clear H;intro k a w hI H;obtain ⟨hk,hall⟩:=hI;dsimp only [lca,bM] at H;refine kP H (SR fun _ K8=>Rc rfl (Kz K8 (SQ fun _ K9=>Cd rfl ?_ ?_))) <;> clear H K8
 ·intro h18 a H
  try have tH:=dT h18
  have hk2:k < s.size:=by omega
  refine kP H (Kc K9 (SQ fun _ aS=>SB (SR fun _ bH=>Rm rfl (aj bH rfl (SR fun _ bT=>Rm rfl (Rm rfl ?_))))));clear H K9 bH;intro a H;refine qK k iT H wn rfl rfl rfl (by omega) rfl ?_;clear H;intro a H;rw [<- mY] at H;refine Sc rfl H wn rfl rfl rfl ?_;clear H;intro a H;refine kH H (aj bT rfl ?_);clear H bT;intro a H;refine uf (ι:=Bool) (Tc:=[(0,_),(3,_),(16,_),(17,_)]) (Lc:=[]) (fun gh=>[(5,.bool gh)]) (fun gh=>[]) (fun gh=>G) (fun gh=>gh=Q7 (ig s k)) (by exact H.sub ⟨rfl,rfl,rfl,rfl,ay⟩) ?_ ?_
  ·skip;refine kP H (SC (Rm rfl (Rc rfl (Rm rfl (Sp 26 rfl ?_ ?_))))) <;> clear H
   ·intro jw a H
    try have p26:=dT jw
    refine kH H (YM jw rfl (YC jw rfl (Pt jw rfl (Ra rfl ?_))));clear H;intro a H;refine aB ?_;refine ⟨_,by exact H.sub ⟨rfl,rfl,rfl,rfl,rfl,ay⟩,?_⟩
    unfold Q7;exact Gq
   intro jw a H
   try have p26:=dF jw
   refine kH H (aJ jw rfl (Pf jw rfl (Ra rfl ?_)));clear H;intro a H;refine aB ?_;refine ⟨_,by exact H.sub ⟨rfl,rfl,rfl,rfl,rfl,ay⟩,?_⟩
   unfold Q7;exact Gq
  clear H;intro lt a w hI H;have hlt:=hI;dsimp only [lca,bM] at H;refine uf (ι:=Bool) (Tc:=[(0,_),(3,_),(5,_),(16,_),(17,_)]) (Lc:=[]) (fun gh=>[(6,.bool gh)]) (fun gh=>[]) (fun gh=>G) (fun gh=>gh=IG (ig s k)) (by exact H.sub ⟨rfl,rfl,rfl,rfl,rfl,ay⟩) ?_ ?_
  ·skip;refine kP H (SC (Rm rfl (Rm rfl ?_)));clear H;intro a H;refine qK k iT H wn rfl rfl rfl (by omega) rfl ?_;clear H;intro a H;rw [<- mY] at H;refine kH H (Rc rfl (Rm rfl (Sp 34 rfl ?_ ?_))) <;> clear H
   ·intro fu a H
    try have p34:=dT fu
    refine kH H (YM fu rfl (YM fu rfl ?_));clear H;intro a H;refine qK k iT H (wg H rfl rfl fu) rfl rfl rfl (by omega) rfl ?_;clear H;intro a H;rw [<- mY] at H;refine kH H (YC fu rfl (Pt fu rfl (Rm rfl (Sp 40 rfl ?_ ?_)))) <;> clear H
    ·intro lH a H
     try have p40:=dT lH
     refine kH H (aJ lH rfl (aJ lH rfl (Pt lH rfl (Rm rfl (aJ rfl rfl (aJ rfl rfl (Pt rfl rfl (Ra rfl ?_))))))));clear H;intro a H;refine aB ?_;refine ⟨_,by exact H.sub ⟨rfl,rfl,rfl,rfl,rfl,rfl,ay⟩,?_⟩
     unfold IG;exact Gq
    intro lH a H
    try have p40:=dF lH
    refine kH H (YM lH rfl (YM lH rfl ?_));clear H;intro a H;refine qK k iT H (wg H rfl rfl lH) rfl rfl rfl (by omega) rfl ?_;clear H;intro a H;rw [<- mY] at H;refine kH H (YC lH rfl (Pf lH rfl (Rm rfl (Sp 46 rfl ?_ ?_)))) <;> clear H
    ·intro h46 a H
     try have p46:=dT h46
     refine kH H (aJ h46 rfl (aJ h46 rfl (Pt h46 rfl (Ra rfl ?_))));clear H;intro a H;refine aB ?_;refine ⟨_,by exact H.sub ⟨rfl,rfl,rfl,rfl,rfl,rfl,ay⟩,?_⟩
     unfold IG;exact Gq
    intro h46 a H
    try have p46:=dF h46
    refine kH H (YM h46 rfl (YM h46 rfl ?_));clear H;intro a H;refine qK k iT H (wg H rfl rfl h46) rfl rfl rfl (by omega) rfl ?_;clear H;intro a H;rw [<- mY] at H;refine kH H (YC h46 rfl (Pf h46 rfl (Ra rfl ?_)));clear H;intro a H;refine aB ?_;refine ⟨_,by exact H.sub ⟨rfl,rfl,rfl,rfl,rfl,rfl,ay⟩,?_⟩
    unfold IG;exact Gq
   intro fu a H
   try have p34:=dF fu
   refine kH H (aJ fu rfl (aJ fu rfl (Pf fu rfl (Rm rfl ?_))));clear H;intro a H;(iterate 2 refine FK H (wg H rfl rfl rfl) rfl rfl ?_;clear H;intro a H);refine qK k iT H (wg H rfl rfl rfl) rfl rfl rfl (by omega) rfl ?_;clear H;intro a H;rw [<- mY] at H;refine FI H (wg H rfl rfl rfl) rfl rfl rfl rfl ?_;clear H;intro a H;refine kH H (Pf rfl rfl (Rm rfl (Sp 46 rfl ?_ ?_))) <;> clear H
   ·intro h46 a H
    try have p46:=dT h46
    refine kH H (aJ h46 rfl (aJ h46 rfl (Pt h46 rfl (Ra rfl ?_))));clear H;intro a H;refine aB ?_;refine ⟨_,by exact H.sub ⟨rfl,rfl,rfl,rfl,rfl,rfl,ay⟩,?_⟩
    unfold IG;exact Gq
   intro h46 a H
   try have p46:=dF h46
   refine kH H (YM h46 rfl (YM h46 rfl ?_));clear H;intro a H;refine qK k iT H (wg H rfl rfl h46) rfl rfl rfl (by omega) rfl ?_;clear H;intro a H;rw [<- mY] at H;refine kH H (YC h46 rfl (Pf h46 rfl (Ra rfl ?_)));clear H;intro a H;refine aB ?_;refine ⟨_,by exact H.sub ⟨rfl,rfl,rfl,rfl,rfl,rfl,ay⟩,?_⟩
   unfold IG;exact Gq
  clear H;intro ot a w hI H;have hot:=hI;dsimp only [lca,bM] at H;refine kP H (SR fun _ cK=>Rm rfl (Rn rfl (Rm rfl (Sp 54 rfl ?_ ?_)))) <;> clear H
  ·intro iL a H
   try have p54:=dT iL
   refine kH H (YM iL rfl (YC iL rfl (YM iL rfl (Sp 57 rfl ?_ ?_)))) <;> clear H
   ·intro h57 a H
    try have p57:=dT h57
    refine kH H (aJ h57 rfl (PT iL h57 rfl (Pt iL rfl (Kz cK (Ct rfl rfl (SR fun _ dB=>aj dB rfl ?_))))));clear H cK dB;intro a H;refine lr H results192 rfl ?_
    exact TT
   intro h57 a H
   try have p57:=dF h57
   refine kH H (YM h57 rfl (YN h57 rfl (PF iL h57 rfl (Pt iL rfl (Kz cK (Cd rfl ?_ ?_)))))) <;> clear H cK
   ·intro Ho a H
    try have p61:=dT Ho
    refine kP H (SR fun _ eU=>aj eU rfl ?_);clear H eU;intro a H;refine lr H results192 rfl ?_
    exact TT
   intro Ho a H
   try have p61:=dF Ho
   refine kP H (Kc aS (SC (Rd rfl (Rm rfl ?_))));clear H aS;intro a H;refine aB ?_;refine dJ ((k+1)) (by exact H.sub ⟨rfl,rfl,rfl,ay⟩) ?_
   exact aax
  intro iL a H
  try have p54:=dF iL
  refine kH H (aM iL rfl (Ku rfl (Ku rfl (Ks iL rfl (Pf iL rfl (Kz cK (Cf rfl rfl (Kc aS (SC (Rd rfl (Rm rfl ?_)))))))))));clear H cK aS;intro a H;refine aB ?_;refine dJ ((k+1)) (by exact H.sub ⟨rfl,rfl,rfl,ay⟩) ?_
  exact aax
 intro h18 a H
 try have tH:=dF h18
 refine eu ?_;refine K6 _ _ ?_;clear K6;refine kP H (SR fun _ eX=>aj eX rfl ?_);clear H eX;intro a H;refine lr H results192 rfl ?_
 exact TT
section
section
variable {N:Nat} {D:List Deferred} {w0:World} {F:Nat->Prop} {G0 G:GH} {L:OL} {T:List (Nat × ah)}
variable {r:Option Nat} {P:Program} {ops:Array Oper} {Q:Exit->Act->World->Prop} {rest:List Oper} {a:Act} {w:World}
variable {d:Nat} {ty:TypeId} {pos:String} {aO:Array Edge} {g:Option (Nat × Bool)}
end
end
section
section
variable {N:Nat} {D:List Deferred} {w0:World} {F:Nat->Prop} {G0 G:GH} {L:OL} {T T':List (Nat × ah)}
variable {r:Option Nat} {P:Program} {Q:Exit->Act->World->Prop} {l:List Oper} {a a':Act} {w w':World} {ε:Type}
def Jg (l:List Oper) (pr:ε->Nat->ah->Prop) (T:List (Nat × ah)) (S:Nat->Bool) (E:ε) (T':List (Nat × ah)):Prop :=
 (∀ t v,lk T t=some v->lk T' t=some v)∧∀ i d,S i=true->eT l i=some d->∃ v,lk T' d=some v∧pr E i v
theorem Jg.put {pr:ε->Nat->ah->Prop} {S:Nat->Bool} {E E':ε} {i d:Nat} {v:ah} (h:Jg l pr T S E T') (hok:akH l T=true) (hi:eT l i=some d) (hv:pr E' i v) (hE:∀ j u,j≠i->pr E j u->pr E' j u):Jg l pr T (dQ S i) E' ((d,v) :: T'):=by
 have hil:=vK hi
 have hok1:=lq.1 hok i (vG.2 hil)
 rw [pW,hi] at hok1
 simp only [ow,Option.isNone_iff_eq_none,lq,vG] at hok1
 refine ⟨fun t u ht=>?_,fun j e hj he=>?_⟩
 ·rw [wY (fun e=>by subst e;rw [hok1.1] at ht;cases ht)];exact h.1 t u ht
 ·by_cases hji:j=i
  ·subst hji;rw [hi] at he;cases he;exact ⟨v,xX _ _ _,hv⟩
  ·have hSj:S j=true:=by unfold dQ at hj;rwa [av hji] at hj
   obtain ⟨u,hu1,hu2⟩:=h.2 j e hSj he
   have hne:d≠e:=by
    intro e';subst e'
    have h2:=hok1.2 j (vK he)
    have hb:Nat.beq i j=false:=tZ (fun h=>hji h.symm)
    rw [hb,he] at h2
    simp at h2
   exact ⟨u,by rw [wY hne];exact hu1,hE j u hji hu2⟩
theorem Jg.add {pr:ε->Nat->ah->Prop} {S:Nat->Bool} {E:ε} (h:Jg l pr T S E T') {t:Nat} {u:ah} (hu:lk T' t=some u):Jg l pr T S E ((t,u) :: T'):=by
 have e:∀ s v,lk T' s=some v->lk ((t,u) :: T') s=some v:=fun s v hs=>by
  by_cases hst:t=s
  ·subst hst;rw [hu] at hs;cases hs;exact xX _ _ _
  ·rw [wY hst];exact hs
 exact ⟨fun s v hs=>e s v (h.1 s v hs),fun i d hi hd=>by
  obtain ⟨v,h1,h2⟩:=h.2 i d hi hd
  exact ⟨v,e d v h1,h2⟩⟩
end
end
section
section
variable {N:Nat} {D:List Deferred} {w0:World} {F:Nat->Prop} {G0 G G1 G2:GH} {L L1:OL} {T Xs:List (Nat × ah)}
variable {r:Option Nat} {P:Program} {Q:Exit->Act->World->Prop} {l:List Oper} {a a':Act} {w w':World}
theorem Jz {id:Nat} (hm:P.follows .mixedOrders=true) (bX:List (List Nat)) (B:List Nat) (hk:zJ l bX=true) (hB:yw l bX B=true) (X:(Nat->Bool)->Act->World->Prop) (h0:X (fun _=>false) a w.drew)
  (hstep:∀ i o S a w,l[i]?=some o->B.contains i=false->S i=false->(∀ j∈bX.getD i [],S j=true)->(∀ j,j < l.length->i∈bX.getD j []->S j=false)->X S a w->WL r P l.toArray (fun e a' w'=>e=.normal∧X (dQ S i) a' w') [o] a w)
  (hend:∀ S a w,(∀ i,i < l.length->B.contains i=false->S i=true)->(∀ i,B.contains i=true->S i=false)->X S a w->WL r P l.toArray (fun e a w=>e=.normal∧Q .normal a w) (qJ l B) a w):WP r P (.region id l.toArray true) Q a w:=by
 have hB1:∀ p b,B[p]?=some b->b < l.length∧∀ i,i < l.length->(B.contains i=false∨(B.take p).contains i=true)->i∈bX.getD b []:=by
  intro p b hp
  simp only [yw,ow] at hB
  have h1:=lq.1 hB.1 p (vG.2 (jZ.1 hp).1)
  rw [hp] at h1
  simp only [ow,lq,vG] at h1
  refine ⟨Eq.mp Nat.blt_eq h1.1,fun i hi hor=>?_⟩
  have h2:=h1.2 i hi
  rcases hor with h3|h3
  ·have h4:i∉B:=by simpa using h3
   simpa [h4] using h2
  ·have h4:i∈B.take p:=by simpa using h3
   simpa [h4] using h2
 have hB2:∀ i,i < l.length->B.contains i=false->∀ j∈bX.getD i [],B.contains j=false:=by
  intro i hi hb j hj
  simp only [yw,ow] at hB
  have h1:=lq.1 hB.2 i (vG.2 hi)
  rw [hb] at h1
  simp only [Bool.false_or,lq] at h1
  simpa using h1 j hj
 refine aaS hm bX hk (fun S a w=>((∀ i,B.contains i=true->S i=false)∧X S a w) ∨
   ∃ p,(∀ i,i < l.length->B.contains i=false->S i=true)∧(∀ i,(B.take p).contains i=true->S i=true)∧(∀ q b,B[q]?=some b->p<=q->S b=false)∧WL r P l.toArray (fun e a w=>e=.normal∧Q .normal a w) (qJ l (B.drop p)) a w)
  (.inl ⟨fun _ _=>rfl,h0⟩) ?_ ?_
 ·intro i o S a w ho hX aP kJ hdesc
  have hil:i < l.length:=(jZ.1 ho).1
  by_cases hbi:B.contains i=true
  ·-- an operation of the tail: all that stands ahead of it is done
   obtain ⟨p0,hp0⟩:=List.getElem?_of_mem (by simpa using hbi:i∈B)
   have hall:∀ j,j < l.length->B.contains j=false->S j=true:=fun j hj hb=>kJ j ((hB1 p0 i hp0).2 j hj (.inl hb))
   have WW:∃ p,(∀ i,(B.take p).contains i=true->S i=true)∧(∀ q b,B[q]?=some b->p<=q->S b=false)∧WL r P l.toArray (fun e a w=>e=.normal∧Q .normal a w) (qJ l (B.drop p)) a w:=by
    rcases hX with ⟨h1,hD⟩|⟨p,_,h2,h3,h4⟩
    ·exact ⟨0,by simp,fun q b hq _=>h1 b (by simpa using lV hq),hend S a w hall h1 hD⟩
    ·exact ⟨p,h2,h3,h4⟩
   obtain ⟨p,h2,h3,h4⟩:=WW
   -- i is the next one
   have hpp:p<=p0:=by
    rcases Nat.lt_or_ge p0 p with hlt|hge
    ·have:(B.take p).contains i=true:=by
      simp only [zC]
      exact lV (i:=p0) (by rw [uL,aD hlt];exact hp0)
     rw [h2 i this] at aP;cases aP
    ·exact hge
   have Ie:p < B.length:=by have:=(jZ.1 hp0).1;omega
   have hbp:B[p]?=some B[p]:=eD Ie
   have heq:B[p]=i:=by
    rcases Nat.lt_or_ge p p0 with hlt|hge
    ·exfalso
     have hin:B[p]∈bX.getD i []:=(hB1 p0 i hp0).2 _ (hB1 p _ hbp).1 (.inr (by
      simp only [zC]
      exact lV (i:=p) (by rw [uL,aD hlt];exact hbp)))
     have:=kJ _ hin
     rw [h3 p _ hbp (eP _)] at this;cases this
    ·have:p=p0:=by omega
     subst this
     rw [hbp] at hp0;simpa using hp0
   have hdrop:B.drop p=i :: B.drop (p+1):=by rw [rU Ie,heq]
   have hops:qJ l (B.drop p)=o :: qJ l (B.drop (p+1)):=by rw [hdrop];simp [qJ,ho]
   rw [hops] at h4
   refine ahR (fun a' w' h5=>.inr ⟨p+1,fun j hj hb=>?_,fun j hj=>?_,fun q b hq hpq=>?_,h5⟩) h4
   ·unfold dQ;split
    ·rfl
    ·exact hall j hj hb
   ·unfold dQ;split
    ·rfl
    ·rename_i hne
     refine h2 j ?_
     simp only [zC] at hj |-
     rw [kg Ie,jS] at hj
     rcases hj with hj|hj
     ·exact hj
     ·simp only [pU] at hj;exact absurd (hj.trans heq) hne
   ·unfold dQ
    rw [av ?_]
    ·exact h3 q b hq (by omega)
    ·rintro rfl
     -- i would stand twice in B: it would come ahead of itself
     have h6:=(hB1 q b hq).2 b (hB1 q b hq).1 (.inr (by
      simp only [zC]
      exact lV (i:=p) (by rw [uL,aD (by omega)];rw [hbp,heq])))
     rw [kJ _ h6] at aP;cases aP
  ·have HV:B.contains i=false:=by cases h:B.contains i with|false=>rfl|true=>exact absurd h hbi
   rcases hX with ⟨h1,hX⟩|⟨p,h0,_,_,_⟩
   ·refine pE (fun e a' w' ⟨he,hD⟩=>⟨he,.inl ⟨fun j hj=>?_,hD⟩⟩) (hstep i o S a w ho HV aP kJ hdesc hX)
    unfold dQ
    rw [av (by rintro rfl;rw [HV] at hj;cases hj)]
    exact h1 j hj
   ·rw [h0 i hil HV] at aP;cases aP
 ·intro S a w hall hX
  rcases hX with ⟨h1,hD⟩|⟨p,_,_,h3,h4⟩
  ·have hnil:B=[]:=by
    cases B with
    | nil=>rfl
    | cons b B=>have h5:=h1 b (by simp);rw [hall b (hB1 0 b rfl).1] at h5;cases h5
   subst hnil
   exact (hend S a w (fun j hj _=>hall j hj) h1 hD).2
  ·have hnil:B.drop p=[]:=by
    cases hd:B.drop p with
    | nil=>rfl
    | cons b B' =>
     have hb:B[p]?=some b:=by
      have:=cO (fun x:List Nat=>x[0]?) hd
      simpa using this
     have h5:=h3 p b hb (eP _)
     rw [hall b (hB1 p b hb).1] at h5;cases h5
   rw [hnil] at h4
   exact h4.2
theorem aiX {id:Nat} (hm:P.follows .mixedOrders=true) (bX:List (List Nat)) (B:List Nat) (hk:zJ l bX=true) (hB:yw l bX B=true) (m:Nat) (M7:B.contains m=false) (ob:Obj) (pr:Nat->Nat->ah->GH->Prop)
  (Ni:∀ b b' i v G,i≠m->pr b i v G->pr b' i v G) (H:St N D w0 F G0 G L T a w)
  (hstep:allI (fun i o=>∀ b L' S a w G1,B.contains i=false->Nat.beq i m=false->S i=false->(∀ j∈bX.getD i [],S j=true)->(∀ k o,G k=some o->G1 k=some o)->St N D w0 F G0 G1 L' T a w->(∀ i d,S i=true->eT l i=some d->∃ v,a.tmps[d]?=some v∧pr b i v G1) ->
   WL r P l.toArray (fun e a' w'=>e=.normal∧DX N D w0 F G0 G L' T l (pr b) (dQ S i) a' w') [o] a w) 0 l)
  (hmid:∀ o S a w G1,l[m]?=some o->S m=false->(∀ j∈bX.getD m [],S j=true)->(∀ k o,G k=some o->G1 k=some o)->St N D w0 F G0 G1 L T a w->(∀ b i d,i≠m->S i=true->eT l i=some d->∃ v,a.tmps[d]?=some v∧pr b i v G1) ->
   WL r P l.toArray (fun e a' w'=>e=.normal∧∃ b,DX N D w0 F G0 G ((b,ob) :: L) T l (pr b) (dQ S m) a' w') [o] a w)
  (hend:∀ b a w G1,(∀ k o,G k=some o->G1 k=some o)->St N D w0 F G0 G1 ((b,ob) :: L) T a w->(∀ i d,B.contains i=false->eT l i=some d->∃ v,a.tmps[d]?=some v∧pr b i v G1)->WL r P l.toArray (fun e a w=>e=.normal∧Q .normal a w) (qJ l B) a w)
  (hml:Nat.blt m l.length=true):WP r P (.region id l.toArray true) Q a w:=by
 refine Jz hm bX B hk hB (fun S a w=>∃ b L',(S m=false->L'=L)∧(S m=true->L'=(b,ob) :: L)∧DX N D w0 F G0 G L' T l (pr b) S a w)
  ⟨0,L,fun _=>rfl,fun h=>absurd (show false=true from h) (by decide),G,fun _ _ h=>h,H.move H.hp.drew,fun _ _ h=>absurd (show false=true from h) (by decide)⟩ ?_ ?_
 ·rintro i o S a w ho hb aP kJ hdesc ⟨b,L',h1,h2,G1,hG,HS,hv⟩
  by_cases him:i=m
  ·subst him
   have e:=h1 aP;subst e
   have h:=hmid o S a w G1 ho aP kJ hG HS fun b' j d hj hSj hd=>by
    obtain ⟨v,hv1,hv2⟩:=hv j d hSj hd
    exact ⟨v,hv1,Ni b b' j v _ hj hv2⟩
   have e1:dQ S i i=true:=aD rfl
   exact pE (fun e a' w' ⟨he,b',hD⟩=>⟨he,b',_,fun h=>absurd (e1.symm.trans h) (by decide),fun _=>rfl,hD⟩) h
  ·have h:=BX hstep i o ho
   rw [iA] at h
   have e:dQ S i m=S m:=av (fun h=>him h.symm)
   exact pE (fun e' a' w' ⟨he,hD⟩=>⟨he,b,L',fun h=>h1 (e ▸ h),fun h=>h2 (e ▸ h),hD⟩) (h b L' S a w G1 hb (tZ him) aP kJ hG HS hv)
 ·rintro S a w hall Na ⟨b,L',h1,h2,G1,hG,HS,hv⟩
  have Kq:S m=true:=hall m (Eq.mp Nat.blt_eq hml) M7
  have e:=h2 Kq;subst e
  exact hend b a w G1 hG HS fun j d hb hd=>hv j d (hall j (vK hd) hb) hd
theorem abN {pr:Nat->ah->GH->Prop} {S:Nat->Bool} {i d:Nat} {v:ah} (hok:pW l T i=true) (hi:eT l i=some d) 
  (HT:St N D w0 F G0 G1 L T a w) (Hb:St N D w0 F G0 G1 L (Xs++full N a) a w) (hG:∀ k o,G k=some o->G1 k=some o) (hv:∀ j d,j≠i->S j=true->eT l j=some d->∃ v,a.tmps[d]?=some v∧pr j v G1)
  (hp:pr i v G1) (H:St N D w0 F G0 G1 L1 ((d,v) :: (Xs++full N a)) a' w'):DX N D w0 F G0 G L1 T l pr (dQ S i) a' w':=by
 have hil:i < l.length:=vK hi
 have hok1:=hok
 rw [pW,hi] at hok1
 simp only [ow,Option.isNone_iff_eq_none,lq,vG] at hok1
 have hsame:∀ t,t≠d->a'.tmps[t]?=a.tmps[t]?:=by
  intro t ht
  by_cases hlt:t < N
  ·have h1:∃ u,lk (Xs++full N a) t=some u:=by
    rw [Q5]
    cases lk Xs t with
    | some u=>exact ⟨u,rfl⟩
    | none=>exact ⟨_,Q6 a hlt⟩
   obtain ⟨u,hu⟩:=h1
   rw [Hb.get t u hu,H.get t u (by rw [wY (Ne.symm ht)];exact hu)]
  ·rw [Array.getElem?_eq_none (by rw [H.oL];omega),Array.getElem?_eq_none (by rw [Hb.oL];omega)]
 refine ⟨G1,hG,⟨H.oL,fun t u ht=>?_,H.uS,H.hp⟩,fun j e hj he=>?_⟩
 ·rw [hsame t (fun e=>by rw [e,hok1.1] at ht;cases ht)]
  exact HT.get t u ht
 ·by_cases hji:j=i
  ·subst hji
   rw [hi] at he
   simp only [pR] at he
   subst he
   exact ⟨v,H.get d v (xX _ _ _),hp⟩
  ·have hSj:S j=true:=by unfold dQ at hj;rwa [av hji] at hj
   obtain ⟨u,hu1,hu2⟩:=hv j e hji hSj he
   have hne:e≠d:=by
    intro e'
    subst e'
    have h2:=hok1.2 j (vK he)
    rw [tZ (fun h=>hji h.symm),he] at h2
    simp at h2
   exact ⟨u,by rw [hsame e hne];exact hu1,hu2⟩
end
end
section
section
variable {N:Nat} {D:List Deferred} {w0:World} {F:Nat->Prop} {G0 G G1 G2:GH} {L L1:OL} {T Xs:List (Nat × ah)}
variable {r:Option Nat} {P:Program} {Q:Exit->Act->World->Prop} {l:List Oper} {a a':Act} {w w':World}
theorem aiY {id:Nat} (hm:P.follows .mixedOrders=true) (bX:List (List Nat)) (B:List Nat) (hk:zJ l bX=true) (hB:yw l bX B=true) (m:Nat) (M7:B.contains m=false) (ob:Obj) (pr:Nat->Nat->ah->GH->Prop)
  (Ni:∀ b b' i v G,i≠m->pr b i v G->pr b' i v G) (H:St N D w0 F G0 G L T a w)
  (hstep:allI (fun i o=>∀ b L' S a w G1,(∀ x,x∈L->x∈L')->B.contains i=false->Nat.beq i m=false->S i=false->(∀ j∈bX.getD i [],S j=true)->(∀ k o,G k=some o->G1 k=some o)->St N D w0 F G0 G1 L' T a w->(∀ i d,S i=true->eT l i=some d->∃ v,a.tmps[d]?=some v∧pr b i v G1) ->
   WL r P l.toArray (fun e a' w'=>e=.normal∧DX N D w0 F G0 G L' T l (pr b) (dQ S i) a' w') [o] a w) 0 l)
  (hmid:∀ o S a w G1,l[m]?=some o->S m=false->(∀ j∈bX.getD m [],S j=true)->(∀ k o,G k=some o->G1 k=some o)->St N D w0 F G0 G1 L T a w->(∀ b i d,i≠m->S i=true->eT l i=some d->∃ v,a.tmps[d]?=some v∧pr b i v G1) ->
   WL r P l.toArray (fun e a' w'=>e=.normal∧∃ b,DX N D w0 F G0 G ((b,ob) :: L) T l (pr b) (dQ S m) a' w') [o] a w)
  (hend:∀ b a w G1,(∀ k o,G k=some o->G1 k=some o)->St N D w0 F G0 G1 ((b,ob) :: L) T a w->(∀ i d,B.contains i=false->eT l i=some d->∃ v,a.tmps[d]?=some v∧pr b i v G1)->WL r P l.toArray (fun e a w=>e=.normal∧Q .normal a w) (qJ l B) a w)
  (hml:Nat.blt m l.length=true):WP r P (.region id l.toArray true) Q a w:=by
 refine Jz hm bX B hk hB (fun S a w=>∃ b L',(S m=false->L'=L)∧(S m=true->L'=(b,ob) :: L)∧DX N D w0 F G0 G L' T l (pr b) S a w)
  ⟨0,L,fun _=>rfl,fun h=>absurd (show false=true from h) (by decide),G,fun _ _ h=>h,H.move H.hp.drew,fun _ _ h=>absurd (show false=true from h) (by decide)⟩ ?_ ?_
 ·rintro i o S a w ho hb aP kJ hdesc ⟨b,L',h1,h2,G1,hG,HS,hv⟩
  by_cases him:i=m
  ·subst him
   have e:=h1 aP;subst e
   have h:=hmid o S a w G1 ho aP kJ hG HS fun b' j d hj hSj hd=>by
    obtain ⟨v,hv1,hv2⟩:=hv j d hSj hd
    exact ⟨v,hv1,Ni b b' j v _ hj hv2⟩
   have e1:dQ S i i=true:=aD rfl
   exact pE (fun e a' w' ⟨he,b',hD⟩=>⟨he,b',_,fun h=>absurd (e1.symm.trans h) (by decide),fun _=>rfl,hD⟩) h
  ·have h:=BX hstep i o ho
   rw [iA] at h
   have e:dQ S i m=S m:=av (fun h=>him h.symm)
   exact pE (fun e' a' w' ⟨he,hD⟩=>⟨he,b,L',fun h=>h1 (e ▸ h),fun h=>h2 (e ▸ h),hD⟩) (h b L' S a w G1 (fun x hx=>by
    cases hS:S m with
    | false=>rw [h1 hS];exact hx
    | true=>rw [h2 hS];exact gV _ hx) hb (tZ him) aP kJ hG HS hv)
 ·rintro S a w hall Na ⟨b,L',h1,h2,G1,hG,HS,hv⟩
  have Kq:S m=true:=hall m (Eq.mp Nat.blt_eq hml) M7
  have e:=h2 Kq;subst e
  exact hend b a w G1 hG HS fun j d hb hd=>hv j d (hall j (vK hd) hb) hd
end
end
section
section
variable {N:Nat} {D:List Deferred} {w0:World} {F:Nat->Prop} {G0 G G1 G2:GH} {L L1 L2:OL} {T Xs:List (Nat × ah)}
variable {r:Option Nat} {P:Program} {Q:Exit->Act->World->Prop} {l:List Oper} {a a':Act} {w w':World}
theorem abO {pr:Nat->ah->GH->Prop} {S:Nat->Bool} {i:Nat} (hi:eT l i=none) (HT:St N D w0 F G0 G1 L T a w) (hG:∀ k o,G k=some o->G1 k=some o) (hv:∀ i d,S i=true->eT l i=some d->∃ v,a.tmps[d]?=some v∧pr i v G1)
  (H:St N D w0 F G0 G1 L2 (Xs++full N a) a w'):DX N D w0 F G0 G L2 T l pr (dQ S i) a w' :=
 ⟨G1,hG,HT.move H.hp,fun j e hj he=>hv j e (by
  unfold dQ at hj
  by_cases hji:j=i
  ·subst hji;rw [hi] at he;cases he
  ·rwa [av hji] at hj) he⟩
theorem ajc {id:Nat} (hm:P.follows .mixedOrders=true) (bX:List (List Nat)) (B:List Nat) (hk:zJ l bX=true) (hB:yw l bX B=true) (m:Nat) (M7:B.contains m=false) (pr:Nat->ah->GH->Prop) (ix:Nat) (ob:Nat × Obj)
  (H:St N D w0 F G0 G L T a w)
  (hstep:allI (fun i o=>∀ S a w G1,B.contains i=false->Nat.beq i m=false->S i=false->(∀ j∈bX.getD i [],S j=true)->(∀ k o,G k=some o->G1 k=some o)->St N D w0 F G0 G1 L T a w->(∀ i d,S i=true->eT l i=some d->∃ v,a.tmps[d]?=some v∧pr i v G1) ->
   WL r P l.toArray (fun e a' w'=>e=.normal∧DX N D w0 F G0 G L T l pr (dQ S i) a' w') [o] a w) 0 l)
  (hmid:∀ o S a w G1,l[m]?=some o->S m=false->(∀ j∈bX.getD m [],S j=true)->(∀ k o,G k=some o->G1 k=some o)->St N D w0 F G0 G1 L T a w->(∀ i d,S i=true->eT l i=some d->∃ v,a.tmps[d]?=some v∧pr i v G1) ->
   WL r P l.toArray (fun e a' w'=>e=.normal∧DX N D w0 F G0 G (L.set ix ob) T l pr (dQ S m) a' w') [o] a w)
  (hstep2:allI (fun i o=>∀ S a w G1,(B.contains i || (bX.getD m []).contains i)=false->Nat.beq i m=false->S i=false->(∀ j∈bX.getD i [],S j=true)->(∀ k o,G k=some o->G1 k=some o)->St N D w0 F G0 G1 (L.set ix ob) T a w->(∀ i d,S i=true->eT l i=some d->∃ v,a.tmps[d]?=some v∧pr i v G1) ->
   WL r P l.toArray (fun e a' w'=>e=.normal∧DX N D w0 F G0 G (L.set ix ob) T l pr (dQ S i) a' w') [o] a w) 0 l)
  (hend:∀ a w G1,(∀ k o,G k=some o->G1 k=some o)->St N D w0 F G0 G1 (L.set ix ob) T a w->(∀ i d,B.contains i=false->eT l i=some d->∃ v,a.tmps[d]?=some v∧pr i v G1)->WL r P l.toArray (fun e a w=>e=.normal∧Q .normal a w) (qJ l B) a w)
  (hml:Nat.blt m l.length=true):WP r P (.region id l.toArray true) Q a w:=by
 refine Jz hm bX B hk hB (fun S a w=>(S m=false∧DX N D w0 F G0 G L T l pr S a w)∨(S m=true∧DX N D w0 F G0 G (L.set ix ob) T l pr S a w))
  (.inl ⟨rfl,G,fun _ _ h=>h,H.move H.hp.drew,fun _ _ h=>absurd (show false=true from h) (by decide)⟩) ?_ ?_
 ·rintro i o S a w ho hb aP kJ hdesc hX
  by_cases him:i=m
  ·subst him
   rcases hX with ⟨_,G1,hG,HS,hv⟩|⟨h1,_⟩
   ·have h:=hmid o S a w G1 ho aP kJ hG HS hv
    have e1:dQ S i i=true:=aD rfl
    exact pE (fun e a' w' ⟨he,hD⟩=>⟨he,.inr ⟨e1,hD⟩⟩) h
   ·rw [h1] at aP;cases aP
  ·have e:dQ S i m=S m:=av (fun h=>him h.symm)
   rcases hX with ⟨h1,G1,hG,HS,hv⟩|⟨h1,G1,hG,HS,hv⟩
   ·have h:=BX hstep i o ho
    rw [iA] at h
    exact pE (fun e' a' w' ⟨he,hD⟩=>⟨he,.inl ⟨e.trans h1,hD⟩⟩) (h S a w G1 hb (tZ him) aP kJ hG HS hv)
   ·have h:=BX hstep2 i o ho
    rw [iA] at h
    have hnc:(B.contains i || (bX.getD m []).contains i)=false:=by
     rw [hb,Bool.false_or]
     cases hc2:(bX.getD m []).contains i with
     | false=>rfl
     | true=>have:=hdesc m (Eq.mp Nat.blt_eq hml) (zC.1 hc2);rw [h1] at this;cases this
    exact pE (fun e' a' w' ⟨he,hD⟩=>⟨he,.inr ⟨e.trans h1,hD⟩⟩) (h S a w G1 hnc (tZ him) aP kJ hG HS hv)
 ·rintro S a w hall Na hX
  have Kq:S m=true:=hall m (Eq.mp Nat.blt_eq hml) M7
  rcases hX with ⟨h1,_⟩|⟨h1,G1,hG,HS,hv⟩
  ·rw [h1] at Kq;cases Kq
  ·exact hend a w G1 hG HS fun j d hb hd=>hv j d (hall j (vK hd) hb) hd
end
end
theorem asJ:liesAt prog prog.depth 340 (7 / prog.cellsOf 340) 2 172 1=true:=by kernel_rfl
theorem Sz:Ty prog 5 1 1 [.int .u8 0] false:=⟨by kernel_rfl,by kernel_rfl⟩
abbrev iP (b:Nat) (s:ByteArray) (i:Int) (p v q:ah) (pl e:Int):Nat × Obj:=(b,.cells #[.string s,vi i,p,v,q,vi pl,vi e] 340 (0,0))
theorem awh (G:GH) (L:OL) (w0:World) (b:Nat) (s:ByteArray) (i:Int) (A:Option Addr) (n c:Nat) (B:Option Addr) (m d:Nat) (pl e:Int) (hO:gY G (iP b s i (.pointer none) (.slice A n c) (.slice B m d) pl e :: L) w0) :
  Calls prog 154 #[(aK b 2)] w0 (gF w0 G (iP b s i (.pointer none) (.slice A n c) (.slice B m d) pl e :: L) fun u G' L'=>L'=iP b s i (aK b 2) (.slice A n c) (.slice B m d) pl e :: L∧G'=G):=by
 refine jD (N:=20) (T:=[(0,_)]) func154 rfl ntmps154 rfl rfl hO ?_;intro a H;refine kP H (SR fun _ K1=>Rm rfl (Rk rfl (bO MC Ob 0 rfl rfl ?_)));clear H;intro a H;refine agL Og H wn rfl rfl ?_;clear H;intro a H;refine K1 _ _ ?_;clear K1;refine jr H rfl ?_ ?_
 ·intro h6
  refine kP H (SC (Rm rfl (Rm rfl ?_)));clear H;intro a H;refine avY Og ahu YE H wn rfl 0 rfl rfl rfl ?_;clear H;intro a H;refine avP (xs:=[.tmp 9]) (atv _) H wn rfl rfl ?_;clear H;intro a H;refine avK ahu Og YE H wn rfl 0 rfl asJ rfl ?_;clear H;intro a H;refine kH H (Rk rfl (Rf MC rfl ?_));clear H;intro a H;refine bK Ob 0 (vs:=[_]) H wn rfl ?_;clear H;intro w H;refine aB ?_;refine (leave0 H results154 ?_).2;exact H.hp.gT ⟨rfl,rfl⟩
 intro h6
 exact absurd h6 (by decide)
theorem awi (G:GH) (L:OL) (w0:World) (b:Nat) (s:ByteArray) (i:Int) (A:Option Addr) (n c:Nat) (B:Option Addr) (m d:Nat) (pl e:Int) (hO:gY G (iP b s i (aK b 2) (.slice A n c) (.slice B m d) pl e :: L) w0) :
  Calls prog 154 #[(aK b 2)] w0 (gF w0 G (iP b s i (aK b 2) (.slice A n c) (.slice B m d) pl e :: L) fun u G' L'=>L'=iP b s i (aK b 2) (.slice A n c) (.slice B m d) pl e :: L∧G'=G):=by
 refine jD (N:=20) (T:=[(0,_)]) func154 rfl ntmps154 rfl rfl hO ?_;intro a H;refine kP H (SR fun _ K1=>Rm rfl (Rk rfl (bO MC Ob 0 rfl rfl ?_)));clear H;intro a H;refine agL Og H wn rfl rfl ?_;clear H;intro a H;refine K1 _ _ ?_;clear K1;refine jr H rfl ?_ ?_
 ·intro h6
  exact absurd h6 (by simp)
 intro h6
 refine kP H (SR fun _ K2=>Rm rfl (Rk rfl (bO MC Ob 0 rfl rfl (Rm rfl ?_))));clear H;intro a H;refine avN Og YE H wn rfl rfl rfl ?_;clear H;intro a H;refine K2 _ _ ?_;clear K2;refine jr H rfl ?_ ?_
 ·intro h19
  exact absurd h19 (by decide)
 intro h19
 refine iG ?_;refine (leave0 H results154 ?_).2;exact H.hp.gT ⟨rfl,rfl⟩
theorem awj (G:GH) (L:OL) (w0:World) (b:Nat) (s:ByteArray) (i:Int) (p:ah) (A:Option Addr) (n c:Nat) (B:Option Addr) (m d:Nat) (pl e:Int) (hp:p=.pointer none∨p=(aK b 2)) (hO:gY G (iP b s i p (.slice A n c) (.slice B m d) pl e :: L) w0) :
  Calls prog 154 #[(aK b 2)] w0 (gF w0 G (iP b s i p (.slice A n c) (.slice B m d) pl e :: L) fun u G' L'=>L'=iP b s i (aK b 2) (.slice A n c) (.slice B m d) pl e :: L∧G'=G):=by
 rcases hp with rfl|rfl
 ·exact awh G L w0 b s i A n c B m d pl e hO
 exact awi G L w0 b s i A n c B m d pl e hO
theorem ahL (G:GH) (Lp Lo:OL) (w0:World) (b:Nat) (s:ByteArray) (i:Int) (p v:ah) (B:Option Addr) (m d:Nat) (pl e:Int) (n:Nat) (xs:List ah) (c:Int) (hp:p=.pointer none∨p=(aK b 2)) (hO:gY G (iP b s i p v (.slice B m d) pl e :: (Lp++Lo)) w0) (hrow:dR 5 1 v n xs Lo) (hn:n<=4294967296) :
  Calls prog 273 #[(aK b 2),.int .u8 c] w0 (gF w0 G (iP b s i p v (.slice B m d) pl e :: (Lp++Lo)) fun u G' L'=>∃ v' mE,L'=iP b s i (aK b 2) v' (.slice B m d) pl e :: (Lp++mE)∧dR 5 1 v' (n+1) (xs++[.int .u8 c]) mE∧G'=G):=by
 have hml:maxLen=9223372036854775807:=rfl;obtain ⟨A,c0,rfl,-,-⟩:=hrow.shape;obtain ⟨Lt,uo⟩:∃ x,x=Lp++Lo:=⟨_,rfl⟩;rw [<- uo] at hO |-;refine jD (N:=17) (T:=[(0,_),(1,_)]) func273 rfl ntmps273 rfl rfl hO ?_;intro a H;refine kP H (SR fun _ K1=>aj K1 rfl (SR fun _ K2=>Rm rfl ?_));clear H K1;intro a H;refine iE alx (Li:=[]) (L:=iP b s i p _ (.slice B m d) pl e :: Lt) H wn rfl (awj _ _ _ b s i p A n c0 B m d pl e hp (Hp.owns (Li:=[]) H.hp)) rfl ?_;clear H;rintro v6 _ L6 a w ⟨rfl,rfl⟩ H8 H;dsimp only [List.nil_append] at H;refine K2 _ _ ?_;clear K2;refine kP H (SR fun _ K3=>Rm rfl (Rm rfl (Rk rfl (bO JQ KX 0 rfl rfl (Rm rfl ?_)))));clear H;intro a H;refine iV IY Sz [_] [_] H wn rfl rfl rfl rfl rfl (by intro i q h;match i,h with|0,h=>exact h|n+1,h=>simp at h) rfl rfl ?_;clear H;intro b13 a w Qr H;subst uo;have H:=St.un (A:=[_,_]) (B:=Lp) (C:=Lo) H;refine oZ (Li:=[_,_]++Lp) (Lo:=Lo) (news:=[.int .u8 c]) IY Sz rfl rfl H wn rfl rfl hrow rfl (H.hp.cB 0 rfl rfl) rfl (by omega) (by omega) rfl ?_;clear H;intro v14 aio a w Nk H;obtain ⟨S9,c14,rfl,-,-⟩:=Nk.shape;have H:=H.assoc;dsimp only [lca,bM] at H;refine kH H (Rk rfl (Rf JQ rfl ?_));clear H;intro a H;refine bK KX 1 (vs:=[_]) H wn rfl ?_;clear H;intro w H;refine K3 _ _ ?_;clear K3;exact kP H (SR fun _ K4=>aj K4 rfl (LR results273 rfl fun H=>H.hp.ng (L':=iP b s i _ _ _ pl e :: (Lp++aio)) (Dm _ _) ⟨_,_,rfl,Nk,rfl⟩))
theorem awM (G:GH) (L:OL) (w0:World) (b:Nat) (s:ByteArray) (i:Int) (p:ah) (A:Option Addr) (n c:Nat) (B:Option Addr) (m d:Nat) (pl e:Int) (hO:gY G (iP b s i p (.slice A n c) (.slice B m d) pl e :: L) w0) :
  Calls prog 279 #[(aK b 2)] w0 (gF w0 G (iP b s i p (.slice A n c) (.slice B m d) pl e :: L) fun u G' L'=>u=vi n∧L'=iP b s i p (.slice A n c) (.slice B m d) pl e :: L∧G'=G):=by
 refine jD (N:=8) (T:=[(0,_)]) func279 rfl ntmps279 rfl rfl hO ?_;intro a H;exact kP H (SR fun _ K1=>aj K1 rfl (SR fun _ K2=>Rm rfl (Rk rfl (bO JQ KX 0 rfl rfl (Rl IY rfl (aj K2 rfl (LR results279 rfl fun H=>H.hp.gT ⟨rfl,rfl,rfl⟩)))))))
theorem axb (G:GH) (L:OL) (w0:World) (b:Nat) (s:ByteArray) (i:Int) (p:ah) (A:Option Addr) (n c:Nat) (B:Option Addr) (m d:Nat) (pl e:Int) (hO:gY G (iP b s i p (.slice A n c) (.slice B m d) pl e :: L) w0) :
  Calls prog 280 #[(aK b 2)] w0 (gF w0 G (iP b s i p (.slice A n c) (.slice B m d) pl e :: L) fun u G' L'=>L'=iP b s i (.pointer none) (.slice none 0 0) (.slice B m d) pl e :: L∧G'=G):=by
 refine jD (N:=8) (T:=[(0,_)]) func280 rfl ntmps280 rfl rfl hO ?_;intro a H;refine kP H (SR fun _ K1=>Rm rfl (Rk rfl (Rf MC rfl ?_)));clear H;intro a H;refine bK Ob 0 (vs:=[_]) H wn rfl ?_;clear H;intro w H;refine K1 _ _ ?_;clear K1;refine kP H (SC (Rm rfl (Rk rfl (Rf JQ rfl ?_))));clear H;intro a H;refine bK KX 0 (vs:=[_]) H wn rfl ?_;clear H;intro w H;refine aB ?_;refine (leave0 H results280 ?_).2;exact H.hp.gT ⟨rfl,rfl⟩
theorem axd (G:GH) (Lp Lo:OL) (w0:World) (b:Nat) (s:ByteArray) (i:Int) (p v:ah) (B:Option Addr) (m d:Nat) (pl e:Int) (l:List UInt8) (hO:gY G (iP b s i p v (.slice B m d) pl e :: (Lp++Lo)) w0) (hrow:dR 5 1 v l.length (Lib.byteCells l) Lo) (h0:l≠[]) :
  Calls prog 94 #[(aK b 2)] w0 (gF w0 G (iP b s i p v (.slice B m d) pl e :: (Lp++Lo)) fun u G' L'=>u=.string ⟨l.toArray⟩∧L'=iP b s i p v (.slice B m d) pl e :: Lp):=by
 rcases hrow.2 with ⟨-,h,-⟩|⟨b2,cap,cur,rfl,rfl,hc1,hc2,hc3,hc4⟩
 ·exact absurd (List.eq_nil_of_length_eq_zero h) h0
 have hl0:l.length≠0:=fun h=>h0 (List.eq_nil_of_length_eq_zero h);have hml:maxLen=9223372036854775807:=rfl;obtain ⟨Lt,uo⟩:∃ x,x=Lp++[(b2,Obj.cells cur 5 (0,0))]:=⟨_,rfl⟩;rw [<- uo] at hO |-;refine jD (N:=14) (T:=[(0,_)]) func94 rfl ntmps94 rfl rfl hO ?_;intro a H;refine kP H (SR fun _ K1=>aj K1 rfl (SQ fun _ K2=>?_));clear H K1;intro a H;have H:=H.sub (T':=[(0,_)]) ⟨rfl,ay⟩;refine dI hmx [[],[0],[0,1],[0,1,2],ra 0 4,[],[5],[5,6],[5,6,7],ra 5 4,ra 0 10,ra 0 11] [10,11] (by kernel_rfl) [_,_,_,.slice (some ⟨b2,0,none⟩) l.length cap,(aK b2 0),_,_,_,.slice (some ⟨b2,0,none⟩) l.length cap,_] H (aC (Z0 rfl (Rm rfl)) (Z1 0 3 rfl (Rk rfl)) (Z1 1 4 rfl (Rf JQ rfl)) (Z1 2 5 rfl (Ro KX 0 rfl)) (aC ?_ (Z0 rfl (Rm rfl)) (Z1 5 8 rfl (Rk rfl)) (Z1 6 9 rfl (Rf JQ rfl)) (aC (Z1 7 10 rfl (Ro KX 0 rfl)) (Z1 8 11 rfl (Rl IY rfl)) (bU rfl) (bU rfl) dH))) ?_
 ·refine eY 3 6 rfl rfl fun _ a w G1 hG HT H fin=>?_;refine avV H wn rfl (by omega) rfl ?_;clear H;intro a H;exact dZ
 clear H;intro a w G jy H hv;have H:=H.aN (hv 4 7 rfl rfl) rfl;have H:=H.aN (hv 9 12 rfl rfl) rfl;clear hv;subst uo;have H:=H.perm (List.Perm.cons _ wG);dsimp only [lca,bM] at H;refine avZ (i:=1) l axn ajx h0 (by omega) H wn rfl rfl rfl (by rw [<- hc4,Nat.mul_one]) rfl ?_;clear H;intro fz a w H;dsimp only [List.set] at H;refine kH H (Ra rfl ?_);clear H;intro a H;refine aB ⟨rfl,?_⟩;refine K2 _ _ ?_;clear K2;refine lr H results94 rfl ?_;exact H.hp.ng (L':=iP b s i _ _ _ pl e :: Lp) (List.Sublist.cons_cons _ (Dm _ _)) ⟨rfl,rfl⟩
section
section
variable {N:Nat} {D:List Deferred} {w0:World} {F:Nat->Prop} {G0 G G1 G2:GH} {L L1 L2:OL} {T Xs:List (Nat × ah)}
variable {r:Option Nat} {P:Program} {Q:Exit->Act->World->Prop} {l:List Oper} {a a':Act} {w w':World}
theorem DX.perm {pr:Nat->ah->GH->Prop} {S:Nat->Bool} (h:DX N D w0 F G0 G L1 T l pr S a w) (hp:L1.Perm L2):DX N D w0 F G0 G L2 T l pr S a w:=by
 obtain ⟨G1,hG,HS,hv⟩:=h
 exact ⟨G1,hG,HS.perm hp,hv⟩
end
end
end Go.Proofs.YtdiflmikikiedaaGreat
