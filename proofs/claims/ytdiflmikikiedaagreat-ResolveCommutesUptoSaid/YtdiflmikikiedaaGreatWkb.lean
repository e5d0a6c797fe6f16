/-
  What the claim stands on, part 2: Cp Run Rg Pos Pq Doc Dq Idx Plc Plr Hv Prk Dlf Prp Prq Prc Pst Ehd Dc24 Bld Fst Nam Pn De Dj Dk Dw Lsc Dm Dl.
-/
import Derived.Test.YtdiflmikikiedaaGreatWka
import Derived.Test.YtdiflmikikiedaaGreatRows
namespace Go.Proofs.YtdiflmikikiedaaGreat
set_option linter.all false
open Go.Proofs.Tryz
open Go.RowKit
theorem mF:prog.underlying 3=some (.int .i64):=by kernel_rfl
theorem O8:prog.underlying 5=some (.int .u8):=by kernel_rfl
theorem iY:prog.underlying 9=some .string:=by kernel_rfl
theorem aqe:aS 268:=aT func268 M
theorem apT:aS 249:=aT func249 M
theorem apJ:aS 225:=aT func225 M
theorem Nk:aS 193:=aT func193 M
def yE (b:Int):Int × Int × Int :=
  (if b=224 then 160 else if b=240 then 144 else 128,if b=237 then 159 else if b=244 then 143 else 191,
   if b < 128 then 1 else if b < 194∨244 < b then 0 else if b < 224 then 2 else if b < 240 then 3 else 4)
theorem Z8 (b:Int):0<=(yE b).2.2∧(yE b).2.2<=4:=by
 simp only [yE];split
 ·omega
 split
 ·omega
 split
 ·omega
 split <;> omega
theorem U1 {p:Prop} (h:p:=by
 first|(exfalso;omega)|exact H.rt ⟨by simp only [yE];repeat (first|rw [nk]|rw [dK]),M⟩):p:=h
theorem Dt {p:Prop} (h:p:=by
 intro a H;refine fE ?_;refine (kJ H results268 (.cons (fM H M) (.cons (fM H M) (.cons (fM H M) .nil))) ?_).1
 exact U1):p:=h
theorem alZ {p:Prop} (h:p:=by
 refine fE ?_;refine (kJ H results268 (.cons (fM H M) (.cons (fM H M) (.cons (fM H M) .nil))) ?_).1
 exact U1):p:=h
theorem rV {p:Prop} (h:p:=by
 intro a H;exact alZ):p:=h
theorem aAF (G:GH) (w0:World) (hG:Hold G w0) (b:Int) :
  Calls prog 268 #[.int .u8 b] w0 (bG w0 G fun v G'=>v=.tuple #[.int .u8 (yE b).1,.int .u8 (yE b).2.1,.int .i64 (yE b).2.2]∧G=G'):=by
 refine eN [(0,_)] func268 M ntmps268 M M hG ?_;intro a H;refine kP H (SR fun _ K1=>Ra M (Ra M (aj K1 M (SR fun _ K2=>Ra M (aj K2 M (SQ fun _ K3=>SB (SR fun _ K4=>Rm M (Rc M (aj K4 M (Cd M ?_ ?_)))))))))) <;> clear H K1 K2 K4
 ·intro h5 a H
  try have p5:=dT h5
  refine kP H (SC (bD K3 M (SQ fun _ K5=>SR fun _ K6=>Rm M (Kz K6 (SB (SR fun _ K7=>Rc M (aj K7 M (Cd M ?_ ?_)))))))) <;> clear H K3 K6 K7
  ·intro h22 a H
   try have oH:=dT h22
   refine kP H (SC (bD K5 M (SR fun _ K8=>Rm M (Rm M (Rm M (Ra M (Ra M (aj K8 M ?_))))))));clear H K5 K8;exact rV
  intro h22 a H
  try have oH:=dF h22
  refine kP H (SR fun _ K9=>Rc M (aj K9 M (Cd M ?_ ?_))) <;> clear H K9
  ·intro cK a H
   try have kV:=dT cK
   refine kP H (SC (bD K5 M (SR fun _ aR=>Rm M (Rm M (Rm M (Ra M (Ra M (aj aR M ?_))))))));clear H K5 aR;exact rV
  intro cK a H
  try have kV:=dF cK
  refine kP H (SR fun _ bq=>Rc M (aj bq M (Cd M ?_ ?_))) <;> clear H bq
  ·intro jB a H
   try have p26:=dT jB
   refine kP H (SC (bD K5 M (SR fun _ bP=>Rm M (Rm M (Rm M (Ra M (Ra M (aj bP M ?_))))))));clear H K5 bP;exact rV
  intro jB a H
  try have p26:=dF jB
  refine kP H (SR fun _ bU=>Rc M (aj bU M (Cd M ?_ ?_))) <;> clear H bU
  ·intro fZ a H
   try have p28:=dT fZ
   refine kP H (SC (bD K5 M (SR fun _ dh=>Rm M (Rm M (Rm M (Ra M (Ra M (aj dh M ?_))))))));clear H K5 dh;exact rV
  intro fZ a H
  try have p28:=dF fZ
  refine kP H (Kc K5 (SR fun _ dZ=>Rm M (Rm M (Rm M (Ra M (Ra M (aj dZ M ?_)))))));clear H K5 dZ;exact Dt
 intro h5 a H
 try have p5:=dF h5
 refine kP H (SR fun _ eu=>Rm M (Rc M (Rm M (Sp 11 M ?_ ?_)))) <;> clear H
 ·intro h11 a H
  try have sD:=dT h11
  refine kH H (aL h11 M (Pt h11 M (aj eu M (Ct M M (SC (bD K3 M (SQ fun _ dS=>SR fun _ eY=>Rm M (Kz eY (SB (SR fun _ gU=>Rc M (aj gU M (Cd M ?_ ?_)))))))))))) <;> clear H eu K3 eY gU
  ·intro h22 a H
   try have oH:=dT h22
   refine kP H (SC (bD dS M (SR fun _ fJ=>Rm M (Rm M (Rm M (Ra M (Ra M (aj fJ M ?_))))))));clear H dS fJ;exact rV
  intro h22 a H
  try have oH:=dF h22
  refine kP H (SR fun _ iD=>Rc M (aj iD M (Cd M ?_ ?_))) <;> clear H iD
  ·intro cK a H
   try have kV:=dT cK
   refine kP H (SC (bD dS M (SR fun _ jL=>Rm M (Rm M (Rm M (Ra M (Ra M (aj jL M ?_))))))));clear H dS jL;exact rV
  intro cK a H
  try have kV:=dF cK
  refine kP H (SR fun _ mM=>Rc M (aj mM M (Cd M ?_ ?_))) <;> clear H mM
  ·intro jB a H
   try have p26:=dT jB
   refine kP H (SC (bD dS M (SR fun _ mH=>Rm M (Rm M (Rm M (Ra M (Ra M (aj mH M ?_))))))));clear H dS mH;exact rV
  intro jB a H
  try have p26:=dF jB
  refine kP H (SR fun _ kX=>Rc M (aj kX M (Cd M ?_ ?_))) <;> clear H kX
  ·intro fZ a H
   try have p28:=dT fZ
   refine kP H (SC (bD dS M (SR fun _ ou=>Rm M (Rm M (Rm M (Ra M (Ra M (aj ou M ?_))))))));clear H dS ou;exact rV
  intro fZ a H
  try have p28:=dF fZ
  refine kP H (Kc dS (SR fun _ ow=>Rm M (Rm M (Rm M (Ra M (Ra M (aj ow M ?_)))))));clear H dS ow;exact Dt
 intro h11 a H
 try have sD:=dF h11
 refine kH H (YM h11 M (YC h11 M (Pf h11 M (aj eu M (Cd M ?_ ?_))))) <;> clear H eu
 ·intro h8 a H
  try have p8:=dT h8
  refine kP H (SC (bD K3 M (SQ fun _ kY=>SR fun _ qj=>Rm M (Kz qj (SB (SR fun _ qB=>Rc M (aj qB M (Cd M ?_ ?_)))))))) <;> clear H K3 qj qB
  ·intro h22 a H
   try have oH:=dT h22
   refine kP H (SC (bD kY M (SR fun _ qO=>Rm M (Rm M (Rm M (Ra M (Ra M (aj qO M ?_))))))));clear H kY qO;exact rV
  intro h22 a H
  try have oH:=dF h22
  refine kP H (SR fun _ rO=>Rc M (aj rO M (Cd M ?_ ?_))) <;> clear H rO
  ·intro cK a H
   try have kV:=dT cK
   refine kP H (SC (bD kY M (SR fun _ qP=>Rm M (Rm M (Rm M (Ra M (Ra M (aj qP M ?_))))))));clear H kY qP;exact rV
  intro cK a H
  try have kV:=dF cK
  refine kP H (SR fun _ rP=>Rc M (aj rP M (Cd M ?_ ?_))) <;> clear H rP
  ·intro jB a H
   try have p26:=dT jB
   refine kP H (SC (bD kY M (SR fun _ vK=>Rm M (Rm M (Rm M (Ra M (Ra M (aj vK M ?_))))))));clear H kY vK;exact rV
  intro jB a H
  try have p26:=dF jB
  refine kP H (SR fun _ sM=>Rc M (aj sM M (Cd M ?_ ?_))) <;> clear H sM
  ·intro fZ a H
   try have p28:=dT fZ
   refine kP H (SC (bD kY M (SR fun _ xB=>Rm M (Rm M (Rm M (Ra M (Ra M (aj xB M ?_))))))));clear H kY xB;exact rV
  intro fZ a H
  try have p28:=dF fZ
  refine kP H (Kc kY (SR fun _ BJ=>Rm M (Rm M (Rm M (Ra M (Ra M (aj BJ M ?_)))))));clear H kY BJ;exact Dt
 intro h8 a H
 try have p8:=dF h8
 refine kP H (SR fun _ BK=>Rm M (Rc M (aj BK M (Cd M ?_ ?_)))) <;> clear H BK
 ·intro jM a H
  try have tL:=dT jM
  refine kP H (SC (bD K3 M (SQ fun _ qC=>SR fun _ Dh=>Rm M (Kz Dh (SB (SR fun _ BL=>Rc M (aj BL M (Cd M ?_ ?_)))))))) <;> clear H K3 Dh BL
  ·intro h22 a H
   try have oH:=dT h22
   refine kP H (SC (bD qC M (SR fun _ F7=>Rm M (Rm M (Rm M (Ra M (Ra M (aj F7 M ?_))))))));clear H qC F7;exact rV
  intro h22 a H
  try have oH:=dF h22
  refine kP H (SR fun _ EF=>Rc M (aj EF M (Cd M ?_ ?_))) <;> clear H EF
  ·intro cK a H
   try have kV:=dT cK
   refine kP H (SC (bD qC M (SR fun _ F8=>Rm M (Rm M (Rm M (Ra M (Ra M (aj F8 M ?_))))))));clear H qC F8;exact rV
  intro cK a H
  try have kV:=dF cK
  refine kP H (SR fun _ EG=>Rc M (aj EG M (Cd M ?_ ?_))) <;> clear H EG
  ·intro jB a H
   try have p26:=dT jB
   refine kP H (SC (bD qC M (SR fun _ Mr=>Rm M (Rm M (Rm M (Ra M (Ra M (aj Mr M ?_))))))));clear H qC Mr;exact rV
  intro jB a H
  try have p26:=dF jB
  refine kP H (SR fun _ PX=>Rc M (aj PX M (Cd M ?_ ?_))) <;> clear H PX
  ·intro fZ a H
   try have p28:=dT fZ
   refine kP H (SC (bD qC M (SR fun _ PY=>Rm M (Rm M (Rm M (Ra M (Ra M (aj PY M ?_))))))));clear H qC PY;exact rV
  intro fZ a H
  try have p28:=dF fZ
  refine kP H (Kc qC (SR fun _ K50=>Rm M (Rm M (Rm M (Ra M (Ra M (aj K50 M ?_)))))));clear H qC K50;exact Dt
 intro jM a H
 try have tL:=dF jM
 refine kP H (SR fun _ K51=>Rm M (Rc M (aj K51 M (Cd M ?_ ?_)))) <;> clear H K51
 ·intro h18 a H
  try have tN:=dT h18
  refine kP H (SC (bD K3 M (SQ fun _ BM=>SR fun _ K53=>Rm M (Kz K53 (SB (SR fun _ K54=>Rc M (aj K54 M (Cd M ?_ ?_)))))))) <;> clear H K3 K53 K54
  ·intro h22 a H
   try have oH:=dT h22
   refine kP H (SC (bD BM M (SR fun _ K55=>Rm M (Rm M (Rm M (Ra M (Ra M (aj K55 M ?_))))))));clear H BM K55;exact rV
  intro h22 a H
  try have oH:=dF h22
  refine kP H (SR fun _ K56=>Rc M (aj K56 M (Cd M ?_ ?_))) <;> clear H K56
  ·intro cK a H
   try have kV:=dT cK
   refine kP H (SC (bD BM M (SR fun _ K57=>Rm M (Rm M (Rm M (Ra M (Ra M (aj K57 M ?_))))))));clear H BM K57;exact rV
  intro cK a H
  try have kV:=dF cK
  refine kP H (SR fun _ K58=>Rc M (aj K58 M (Cd M ?_ ?_))) <;> clear H K58
  ·intro jB a H
   try have p26:=dT jB
   refine kP H (SC (bD BM M (SR fun _ K59=>Rm M (Rm M (Rm M (Ra M (Ra M (aj K59 M ?_))))))));clear H BM K59;exact rV
  intro jB a H
  try have p26:=dF jB
  refine kP H (SR fun _ K60=>Rc M (aj K60 M (Cd M ?_ ?_))) <;> clear H K60
  ·intro fZ a H
   try have p28:=dT fZ
   refine kP H (SC (bD BM M (SR fun _ K61=>Rm M (Rm M (Rm M (Ra M (Ra M (aj K61 M ?_))))))));clear H BM K61;exact rV
  intro fZ a H
  try have p28:=dF fZ
  refine kP H (Kc BM (SR fun _ K62=>Rm M (Rm M (Rm M (Ra M (Ra M (aj K62 M ?_)))))));clear H BM K62;exact Dt
 intro h18 a H
 try have tN:=dF h18
 refine kP H (SC (bD K3 M (SQ fun _ BN=>SR fun _ K64=>Rm M (Kz K64 (SB (SR fun _ K65=>Rc M (aj K65 M (Cd M ?_ ?_)))))))) <;> clear H K3 K64 K65
 ·intro h22 a H
  try have oH:=dT h22
  refine kP H (SC (bD BN M (SR fun _ K66=>Rm M (Rm M (Rm M (Ra M (Ra M (aj K66 M ?_))))))));clear H BN K66;exact Dt
 intro h22 a H
 try have oH:=dF h22
 refine kP H (SR fun _ K67=>Rc M (aj K67 M (Cd M ?_ ?_))) <;> clear H K67
 ·intro cK a H
  try have kV:=dT cK
  refine kP H (SC (bD BN M (SR fun _ K68=>Rm M (Rm M (Rm M (Ra M (Ra M (aj K68 M ?_))))))));clear H BN K68;exact Dt
 intro cK a H
 try have kV:=dF cK
 refine kP H (SR fun _ K69=>Rc M (aj K69 M (Cd M ?_ ?_))) <;> clear H K69
 ·intro jB a H
  try have p26:=dT jB
  refine kP H (SC (bD BN M (SR fun _ K70=>Rm M (Rm M (Rm M (Ra M (Ra M (aj K70 M ?_))))))));clear H BN K70;exact Dt
 intro jB a H
 try have p26:=dF jB
 refine kP H (SR fun _ K71=>Rc M (aj K71 M (Cd M ?_ ?_))) <;> clear H K71
 ·intro fZ a H
  try have p28:=dT fZ
  refine kP H (SC (bD BN M (SR fun _ K72=>Rm M (Rm M (Rm M (Ra M (Ra M (aj K72 M ?_))))))));clear H BN K72;exact Dt
 intro fZ a H
 try have p28:=dF fZ
 refine kP H (Kc BN (SR fun _ K73=>Rm M (Rm M (Rm M (Ra M (Ra M (aj K73 M ?_)))))));clear H BN K73;intro a H;refine fE ?_;refine (kJ H results268 (.cons (fM H M) (.cons (fM H M) (.cons (fM H M) .nil))) ?_).1
 exact U1
def gX (s:ByteArray) (i:Nat):Int:=if h:i < s.size then (s[i].toNat:Int) else 0
theorem pF {s:ByteArray} {i:Nat} (h:i < s.size):gX s i=(s[i].toNat:Int):=by simp [gX,h]
def sS (s:ByteArray) (at_ n:Nat):(fuel k:Nat)->(low high p:Int)->Int × Nat × Bool
 | 0,k,_,_,p=>(p,k,true)
 | f+1,k,low,high,p =>
  if n<=k then (p,k,true)
  else if s.size<=at_+k∨gX s (at_+k) < low∨high < gX s (at_+k) then (0,k,false)
  else sS s at_ n f (k+1) 128 191 (xI .or .i64 (IntKind.i64.wrap (p*2 ^ 6)) (xI .and .i64 (gX s (at_+k)) 63))
def mZ (s:ByteArray) (at_:Nat):Int × Nat × Bool :=
 let b:=gX s at_
 let t:=yE b
 if t.2.2=0 then (0,0,false) else if t.2.2=1 then (b,1,true)
 else sS s at_ t.2.2.toNat 4 1 t.1 t.2.1 (xI .and .i64 b ((127:Int).fdiv (2 ^ t.2.2.toNat)))
theorem aac (n:UInt8):IntKind.i64.wrap (n.toNat:Int)=(n.toNat:Int):=Ir O (by have:=n.toNat_lt;omega)
theorem aaQ {p:Prop} (h:p:=by
 exact H.rt ⟨by rw [hfin];first|rw [nk]|rw [dK],M⟩):p:=h
theorem Vr {p:Prop} (h:p:=by
 intro a H;refine fE ?_
 have hfin:mZ s i=(if n<=k then (p,k,true) else (0,k,false)):=by
  rw [hdec];have e:5 - k=(4 - k)+1:=by omega
  rw [e,sS]
  by_cases hk2:n<=k
  ·rw [aD hk2,aD hk2]
  rw [av hk2,av hk2,aD (by first|omega|(rw [pF O];omega))]
 refine (kJ H results249 (.cons (fM H M) (.cons (fM H M) (.cons (fM H M) .nil))) ?_).1;exact aaQ):p:=h
set_option maxHeartbeats 1000000 in
theorem anO (G:GH) (w0:World) (hG:Hold G w0) (s:ByteArray) (i:Nat) (hi:i < s.size) (hs:s.size < 4611686018427387904) :
  Calls prog 249 #[.string s,.int .i64 i] w0 (bG w0 G fun v G'=>v=.tuple #[.int .i64 (mZ s i).1,.int .i64 (mZ s i).2.1,.bool (mZ s i).2.2]∧G=G'):=by
 have hb:=pF hi;obtain ⟨n,hn⟩:∃ n:Nat,(yE (gX s i)).2.2=(n:Int):=⟨(yE (gX s i)).2.2.toNat,by have:=Z8 (gX s i);omega⟩
 have hn4:n<=4:=by have:=Z8 (gX s i);omega
 refine eN [(0,_),(1,_)] func249 M ntmps249 M M hG ?_;intro a H;refine kP H (SR fun _ K1=>Ra M (Ra M (aj K1 M (SR fun _ K2=>Rm M (Rm M ?_)))));clear H K1;intro a H;refine qM _ iY H wn M M M (by first|assumption|omega) rfl ?_;clear H;intro a H;refine kH H (Ra M ?_);clear H;intro a H;rw [<- hb] at H;refine K2 _ _ ?_;clear K2;refine kP H (SR fun _ K3=>Rm M ?_);clear H;intro a H;refine s_call aqe H wn M (aAF _ _ H.ro _) M ?_;clear H;rintro v16 _ a w ⟨rfl,rfl⟩ - H;refine kH H (Rm M ?_);clear H;intro a H;(iterate 3 refine lT H wn M M M ?_;clear H;intro a H);refine kH H (Ra M (Ra M (aj K3 M (SQ fun _ K4=>SR fun _ K5=>Rm M (Kz K5 (SB (SR fun _ K6=>Rc M (aj K6 M (Cd M ?_ ?_))))))))) <;> clear H K3 K5 K6
 ·intro h21 a H
  try have Ei:=dT h21
  refine kP H (SR fun _ K7=>Ra M (Ra M (aj K7 M ?_)));clear H K7;intro a H;refine fE ?_;skip;refine (kJ H results249 (.cons (fM H M) (.cons (fM H M) (.cons (fM H M) .nil))) ?_).1;exact H.rt ⟨by simp [mZ,Ei],M⟩
 intro h21 a H
 try have Ei:=dF h21
 refine kP H (SR fun _ K8=>Rc M (aj K8 M (Cd M ?_ ?_))) <;> clear H K8
 ·intro h23 a H
  try have Br:=dT h23
  refine kP H (SR fun _ K9=>Rm M ?_);clear H;intro a H;refine CQ (gX s i) mF O8 H wn M (by rw [hb];exact aac _) M ?_;clear H;intro a H;refine kH H (Ra M (Ra M (aj K9 M ?_)));clear H K9;intro a H;refine fE ?_;skip;refine (kJ H results249 (.cons (fM H M) (.cons (fM H M) (.cons (fM H M) .nil))) ?_).1;exact H.rt ⟨by simp [mZ,Ei,Br],M⟩
 intro h23 a H
 try have Br:=dF h23
 refine kP H (Kc K4 (SR fun _ aR=>Rm M ?_));clear H K4;intro a H;refine CQ (gX s i) mF O8 H wn M (by rw [hb];exact aac _) M ?_;clear H;intro a H;refine kH H (Rm M ?_);clear H;intro a H;refine TN n H wn M M (by rw [hn]) (by show n<=64;omega) rfl ?_;clear H;intro a H;refine TI M H wn M M M ?_;clear H;intro a H;refine kH H (aj aR M (SQ fun _ bq=>SR fun _ bP=>aj bP M (SB ?_)));clear H aR bP;intro a H;skip;refine eX (ι:=Nat × Int × Int × Int) (Tc:=[(0,_),(1,_),(10,_)]) (Lc:=[]) (fun gh=>[(4,.int .i64 gh.2.2.2),(5,.int .i64 (gh.1:Int)),(8,.int .u8 gh.2.1),(9,.int .u8 gh.2.2.1)]) (fun gh=>[]) (fun gh=>G) (fun gh=>gh.1<=4∧mZ s i=sS s i n (5 - gh.1) gh.1 gh.2.1 gh.2.2.1 gh.2.2.2) (fun gh=>5 - gh.1) ((1,_,_,_)) (by exact H.sub ⟨M,M,M,M,M,M,M,aB⟩) ?_ ?_
 ·refine ⟨O,?_⟩;simp only [mZ,hn];rw [dK,dK];rfl
 clear H;rintro ⟨k,low,high,p⟩ a w hI H;dsimp only at hI H;obtain ⟨hk,hdec⟩:=hI;dsimp only [lca,bM] at H;refine kP H (SQ fun _ bU=>SR fun _ dh=>Rm M (Rm M (Rc M (Kz dh (Cd M ?_ ?_))))) <;> clear H dh
 ·intro fq a H
  try have p34:=dT fq
  refine kP H (Kc bU (SQ fun _ dZ=>SB (SQ fun _ eu=>SR fun _ dS=>Rm M (Rm M (Rd M (Rm M (Rv iY M (Rc M (Rm M (Sp 43 M ?_ ?_)))))))))) <;> clear H bU
  ·intro h43 a H
   try have p43:=dT h43
   refine kH H (aP h43 M (aL h43 M (aL h43 M (Pt h43 M (Rm M (aP M M (aL M M (aL M M (Pt M M (Kz dS (Ct M M (SR fun _ eY=>Rm M (Ra M (Ra M (aj eY M ?_)))))))))))))));clear H dS eY;exact Vr
  intro h43 a H
  try have p43:=dF h43
  refine kH H (YM h43 M (YM h43 M (YM h43 M ?_)));clear H;intro a H;refine OP _ H (wg H M M h43) M M M O O M ?_;clear H;intro a H;refine qM _ iY H (wg H M M h43) M M M (by first|assumption|omega) rfl ?_;clear H;intro a H;refine kH H (YM h43 M (YC h43 M (Pf h43 M (Rm M (Sp 52 M ?_ ?_))))) <;> clear H
  ·intro qw a H
   try have p52:=dT qw
   refine kH H (aP qw M (aL qw M (aL qw M (Pt qw M (Kz dS (Ct M M (SR fun _ gU=>Rm M (Ra M (Ra M (aj gU M ?_))))))))));clear H dS gU;exact Vr
  intro qw a H
  try have p52:=dF qw
  refine kH H (YM qw M (YM qw M (YM qw M ?_)));clear H;intro a H;refine OP _ H (wg H M M qw) M M M O O M ?_;clear H;intro a H;refine qM _ iY H (wg H M M qw) M M M (by first|assumption|omega) rfl ?_;clear H;intro a H;refine kH H (YM qw M (YC qw M (Pf qw M (Kz dS (Cd M ?_ ?_))))) <;> clear H dS
  ·intro kI a H
   try have p60:=dT kI
   refine kP H (SR fun _ fJ=>Rm M (Ra M (Ra M (aj fJ M ?_))));clear H fJ;exact Vr
  intro kI a H
  try have p60:=dF kI
  refine kP H (Kc eu (SR fun _ iD=>Rm M ?_));clear H eu;intro a H;refine azo _ H wn M M M Z M ?_;clear H;intro a H;refine kH H (Rm M (Rm M (Rm M (Rd M ?_))));clear H;intro a H;refine qM _ iY H wn M M M (by first|assumption|omega) rfl ?_;clear H;intro a H;refine CQ (gX s (i+k)) mF O8 H wn M (by rw [pF O];exact aac _) M ?_;clear H;intro a H;(iterate 2 refine TI M H wn M M M ?_;clear H;intro a H);refine kH H (aj iD M (SC (Ra M (bD dZ M (SC (Rm M (Rd M (Ra M ?_))))))));clear H iD dZ;intro a H;refine aG ?_;refine dY ((k+1,128,191,xI .or .i64 (IntKind.i64.wrap (p*2 ^ 6)) (xI .and .i64 (gX s (i+k)) 63))) (by exact H.sub ⟨M,M,M,M,M,M,M,aB⟩) ?_
  (try dsimp only);refine ⟨O,?_⟩
  have e:5 - k=(5 - (k+1))+1:=by omega
  rw [hdec,e,sS,dK,pF O,dK]
 intro fq a H
 try have p34:=dF fq
 refine dQ ?_;refine bq _ _ ?_;clear bq;refine kP H (SR fun _ jL=>Rm M (Rm M (Ra M (Ra M (aj jL M ?_)))));clear H jL;intro a H;refine fE ?_
 have hfin:mZ s i=(if n<=k then (p,k,true) else (0,k,false)):=by
  rw [hdec];have e:5 - k=(4 - k)+1:=by omega
  rw [e,sS]
  by_cases hk2:n<=k
  ·rw [aD hk2,aD hk2]
  rw [av hk2,av hk2,aD (by first|omega|(rw [pF O];omega))]
 refine (kJ H results249 (.cons (fM H M) (.cons (fM H M) (.cons (fM H M) .nil))) ?_).1;exact aaQ
theorem ael (s:ByteArray) (at_ n:Nat):∀ (f k:Nat) (low high p:Int),n<=k+f->k<=n->k<=(sS s at_ n f k low high p).2.1∧(sS s at_ n f k low high p).2.1<=n∧((sS s at_ n f k low high p).2.2=true->at_+k<=s.size->at_+(sS s at_ n f k low high p).2.1<=s.size)
 | 0,k,low,high,p,h1,h2=>by simp only [sS];omega
 | f+1,k,low,high,p,h1,h2=>by
  unfold sS
  split
  ·simp only [];omega
  split
  ·simp only [];omega
  have ih:=ael s at_ n f (k+1) 128 191 (xI .or .i64 (IntKind.i64.wrap (p*2 ^ 6)) (xI .and .i64 (gX s (at_+k)) 63)) O O;refine ⟨by have:=ih.1;omega,ih.2.1,fun h3 h4=>ih.2.2 h3 O⟩
theorem QJ (s:ByteArray) (i:Nat) (hi:i < s.size):(mZ s i).2.1<=4∧((mZ s i).2.2=true->1<=(mZ s i).2.1∧i+(mZ s i).2.1<=s.size):=by
 have ht:=Z8 (gX s i)
 unfold mZ
 simp only []
 split
 ·simp
 split
 ·simp;omega
 have:=ael s i (yE (gX s i)).2.2.toNat 4 1 (yE (gX s i)).1 (yE (gX s i)).2.1 (xI .and .i64 (gX s i) ((127:Int).fdiv (2 ^ (yE (gX s i)).2.2.toNat))) O O;refine ⟨O,fun h=>⟨O,this.2.2 h O⟩⟩
def uV (s:ByteArray) (i:Nat):Int :=
 if h:i < s.size then (if h2:(mZ s i).2.2=true then uV s (i+(mZ s i).2.1) else i) else -1
 termination_by s.size - i
 decreasing_by have:=(QJ s i h).2 h2;omega
theorem ase (G:GH) (w0:World) (hG:Hold G w0) (s:ByteArray) (hs:s.size < 4611686018427387904) :
  Calls prog 225 #[.string s] w0 (bG w0 G fun v G'=>v=.int .i64 (uV s 0)∧G=G'):=by
 refine eN [(0,_)] func225 M ntmps225 M M hG ?_;intro a H;refine kP H (SR fun _ K1=>aj K1 M (SQ fun _ K2=>SR fun _ K3=>aj K3 M (SB ?_)));clear H K1 K3;intro a H;skip;refine eX (ι:=Nat) (Tc:=[(0,_)]) (Lc:=[]) (fun gh=>[(3,.int .i64 (gh:Int))]) (fun gh=>[]) (fun gh=>G) (fun gh=>gh<=s.size∧uV s 0=uV s gh) (fun gh=>s.size - gh) (0) (by exact H.sub ⟨M,M,aB⟩) ?_ ?_
 ·exact ⟨O,M⟩
 clear H;intro i a w hI H;obtain ⟨hk,hf⟩:=hI;dsimp only [lca,bM] at H;refine kP H (SQ fun _ K4=>SR fun _ K5=>Rm M (Rm M (Rv iY M (Rc M (Kz K5 (Cd M ?_ ?_)))))) <;> clear H K5
 ·intro h10 a H
  try have jc:=dT h10
  refine kP H (Kc K4 (SB (SR fun _ K6=>Rm M (Rm M ?_))));clear H K4;intro a H;refine s_call apT H wn M (anO _ _ H.ro s i O hs) M ?_;clear H;rintro v14 _ a w ⟨rfl,rfl⟩ - H;have hd:=QJ s i O;refine kH H (Rm M ?_);clear H;intro a H;(iterate 3 refine lT H wn M M M ?_;clear H;intro a H);refine kH H (Ra M (Ra M (aj K6 M (SQ fun _ K7=>SR fun _ K8=>Rm M (Rn M (Kz K8 (Cd M ?_ ?_))))))) <;> clear H K6 K8
  ·intro h19 a H
   try have rF:=dT h19
   exact kP H (SR fun _ K9=>Rm M (aj K9 M (LR results225 M fun H=>H.rt ⟨by rw [hf,uV,dif_pos O,dif_neg (by simpa using h19)],M⟩)))
  intro h19 a H
  try have rF:=dF h19
  refine kP H (Kc K7 (SC (Rm M (Rm M (Rd M (Ra M ?_))))));clear H K7;intro a H;refine aG ?_;refine Y1 ((i+(mZ s i).2.1)) (by exact H.sub ⟨M,M,aB⟩) ?_ ?_
  ·have h1:(mZ s i).2.2=true:=by simpa using h19
   have h2:=hd.2 h1;refine ⟨O,?_⟩;rw [hf,uV,dif_pos O,dif_pos h1]
  have h1:(mZ s i).2.2=true:=by simpa using h19
  have h2:=hd.2 h1
  omega
 intro h10 a H
 try have jc:=dF h10
 refine dQ ?_;refine K2 _ _ ?_;clear K2;exact kP H (SR fun _ aR=>aj aR M (LR results225 M fun H=>H.rt ⟨by rw [hf,uV,dif_neg O],M⟩))
def sI (s:ByteArray):Bool:=decide (uV s 0 < 0)
theorem Pk (G:GH) (w0:World) (hG:Hold G w0) (s:ByteArray) (hs:s.size < 4611686018427387904) :
  Calls prog 193 #[.string s] w0 (bG w0 G fun v G'=>v=.bool (sI s)∧G=G'):=by
 refine eN [(0,_)] func193 M ntmps193 M M hG ?_;intro a H;refine kP H (SR fun _ K1=>aj K1 M (SR fun _ K2=>Rm M ?_));clear H K1;intro a H;refine s_call apJ H wn M (ase _ _ H.ro s hs) M ?_;clear H;rintro v4 _ a w ⟨rfl,rfl⟩ - H;exact kH H (Rc M (aj K2 M (LR results193 M fun H=>H.rt ⟨M,M⟩)))
def qV (s:ByteArray) (i:Nat):Nat :=
 if i < s.size then (if xI .and .u8 (gX s i) 192=128 then 0 else 1)+qV s (i+1) else 0
 termination_by s.size - i
theorem adV (s:ByteArray):∀ (n i:Nat),s.size - i=n->qV s i<=n
 | 0,i,h=>by rw [qV,dK];exact eG _
 | n+1,i,h=>by
  have ih:=adV s n (i+1) O;rw [qV,nk]
  split <;> omega
def uS (s:ByteArray):Nat:=if sI s then qV s 0 else 0
def Me (s:ByteArray):Int:=if sI s then 0 else 12
theorem adW (s:ByteArray):uS s<=s.size:=by unfold uS;have:=adV s s.size 0 O;split <;> omega
theorem anK (G:GH) (w0:World) (hG:Hold G w0) (s:ByteArray) (hs:s.size < 4611686018427387904) :
  Calls prog 197 #[.string s] w0 (bG w0 G fun v G'=>v=.tuple #[vi (uS s),vi (Me s)]∧G=G'):=by
 refine eN [(0,_)] func197 M ntmps197 M M hG ?_;intro a H;refine kP H (SR fun _ K1=>Ra M (aj K1 M (SQ fun _ K2=>SR fun _ K3=>Rm M ?_)));clear H K1;intro a H;refine s_call Nk H wn M (Pk _ _ H.ro s hs) M ?_;clear H;rintro v6 _ a w ⟨rfl,rfl⟩ - H;refine kH H (Rn M (Kz K3 (Cd M ?_ ?_))) <;> clear H K3
 ·intro h7 a H
  refine kP H (SR fun _ K4=>Ra M (aj K4 M ?_));clear H K4;intro a H;refine fE ?_;refine (kJ H results197 (.cons (fM H M) (.cons (fM H M) .nil)) ?_).1;exact H.rt ⟨by simp [uS,Me,show sI s=false by simpa using h7],M⟩
 intro h7 a H
 try have p7:=dF h7
 refine kP H (Kc K2 (SQ fun _ K5=>SR fun _ K6=>Rm M (Rv iY M (Rm M (Kz K6 (SB ?_))))));clear H K2 K6;intro a H;skip;refine eX (ι:=Nat × Nat) (Tc:=[(0,_),(9,_)]) (Lc:=[]) (fun gh=>[(2,vi gh.2),(10,vi gh.1)]) (fun gh=>[]) (fun gh=>G) (fun gh=>gh.1<=s.size∧gh.2<=gh.1∧gh.2+qV s gh.1=uS s) (fun gh=>s.size - gh.1) ((0,0)) (by exact H.sub ⟨M,M,M,M,aB⟩) ?_ ?_
 ·exact ⟨O,O,by simp [uS,show sI s=true by simpa using h7]⟩
 clear H;rintro ⟨i,n⟩ a w hI H;dsimp only at hI H;obtain ⟨hk,hn,hf⟩:=hI;dsimp only [lca,bM] at H;refine kP H (SR fun _ K7=>Rc M (Kz K7 (SQ fun _ K8=>Cd M ?_ ?_))) <;> clear H K7
 ·intro h11 a H
  try have sD:=dT h11
  refine kP H (Kc K8 (SQ fun _ K9=>SB (SR fun _ aR=>Rm M (aj aR M (SR fun _ bq=>Rm M (Rm M ?_))))));clear H K8 aR;intro a H;refine qM _ iY H wn M M M (by first|assumption|omega) rfl ?_;clear H;intro a H;refine TI M H wn M M M ?_;clear H;intro a H;refine kH H (Rc M (Kz bq (Cd M ?_ ?_))) <;> clear H bq
  ·intro cu a H
   try have lI:=dT cu
   refine kP H (SC (Rm M (Rd M (bD K9 M (SC (Rd M (Rm M ?_)))))));clear H K9;intro a H;refine aG ?_;refine dY ((i+1,n+1)) (by exact H.sub ⟨M,M,M,M,aB⟩) ?_
   (try dsimp only);rw [<- pF O] at lI;rw [qV,nk,av lI] at hf;exact ⟨O,O,O⟩
  intro cu a H
  try have lI:=dF cu
  refine kP H (Kc K9 (SC (Rd M (Rm M ?_))));clear H K9;intro a H;refine aG ?_;refine dY ((i+1,n)) (by exact H.sub ⟨M,M,M,M,aB⟩) ?_
  (try dsimp only);rw [<- pF O,oN] at lI;rw [qV,nk,aD lI] at hf;exact ⟨O,O,O⟩
 intro h11 a H
 try have sD:=dF h11
 refine dQ ?_;refine K5 _ _ ?_;clear K5;refine kP H (SR fun _ bP=>Rm M (Ra M (aj bP M ?_)));clear H bP;intro a H;refine fE ?_;refine (kJ H results197 (.cons (fM H M) (.cons (fM H M) .nil)) ?_).1;exact H.rt ⟨by rw [qV,dK,zF] at hf;rw [hf];simp [Me,show sI s=true by simpa using h7],M⟩
theorem hmx:prog.follows .mixedOrders=true:=by kernel_rfl
theorem lM:dP prog 68 0 0:=⟨V⟩
theorem aF:Ty prog 3 1 8 [.int .i64 0] false:=⟨V,V⟩
theorem vY:dP prog 68 3 3:=⟨V⟩
theorem iP:Ty prog 9 1 16 [.string ⟨#[]⟩] false:=⟨V,V⟩
theorem apu:aS 197:=aT func197 M
theorem jq:prog.underlying 22=some (.slice 68):=by kernel_rfl
theorem gI:Ty prog 68 11 176 [.int .i64 0,.int .i64 0,.int .i64 0,.string ⟨#[]⟩,.slice none 0 0,.int .i64 0,.int .i64 0,.slice none 0 0,.slice none 0 0,.slice none 0 0,.slice none 0 0] true:=⟨V,V⟩
theorem gV:prog.underlying 23=some (.slice 187):=by kernel_rfl
theorem iA:Ty prog 187 2 16 [.int .i64 0,.int .i64 0] true:=⟨V,V⟩
theorem oK:prog.underlying 24=some (.slice 159):=by kernel_rfl
theorem oJ:Ty prog 159 2 16 [.int .i64 0,.int .i64 0] true:=⟨V,V⟩
theorem lU:prog.underlying 25=some (.slice 161):=by kernel_rfl
theorem jP:Ty prog 161 4 32 [.int .i64 0,.int .i64 0,.int .i64 0,.bool false] true:=⟨V,V⟩
theorem fB:Ty prog 29 5 88 [.slice none 0 0,.int .i64 0,.int .i64 0,.slice none 0 0,.slice none 0 0] true:=⟨V,V⟩
theorem yR:dP prog 29 0 0:=⟨V⟩
theorem tO:Ty prog 23 1 24 [.slice none 0 0] false:=⟨V,V⟩
theorem QN:aS 168:=aT func168 M
theorem qo:dP prog 29 1 1:=⟨V⟩
theorem uq:dP prog 27 2 2:=⟨V⟩
theorem uK:Ty prog 24 1 24 [.slice none 0 0] false:=⟨V,V⟩
theorem aoX:aS 169:=aT func169 M
theorem Au:dP prog 27 3 3:=⟨V⟩
theorem BA:Ty prog 25 1 24 [.slice none 0 0] false:=⟨V,V⟩
theorem aoY:aS 170:=aT func170 M
theorem nO:prog.underlying 66=some (.slice 74):=by kernel_rfl
theorem jK:Ty prog 74 6 112 [.slice none 0 0,.int .i64 0,.int .i64 0,.slice none 0 0,.slice none 0 0,.slice none 0 0] true:=⟨V,V⟩
theorem qh:prog.underlying 72=some (.slice 76):=by kernel_rfl
theorem kE:Ty prog 76 7 120 [.int .i64 0,.slice none 0 0,.int .i64 0,.int .i64 0,.slice none 0 0,.slice none 0 0,.slice none 0 0] true:=⟨V,V⟩
theorem NA:dP prog 76 0 0:=⟨V⟩
theorem Ke:dP prog 76 1 1:=⟨V⟩
theorem QM:aS 108:=aT func108 M
theorem GZ:dP prog 76 2 6:=⟨V⟩
theorem kW:Ty prog 22 1 24 [.slice none 0 0] false:=⟨V,V⟩
theorem WH:aS 80:=aT func80 M
theorem ZY:qQ prog 76 [(0,1),(1,5),(6,1)] [.int .i64 0,.slice none 0 0,.int .i64 0,.int .i64 0,.slice none 0 0,.slice none 0 0,.slice none 0 0]:=⟨V,V⟩
theorem Ka:dP prog 74 0 0:=⟨V⟩
theorem zM:dP prog 74 1 5:=⟨V⟩
theorem Ad:Ty prog 72 1 24 [.slice none 0 0] false:=⟨V,V⟩
theorem aeN:aS 172:=aT func172 M
theorem ZX:qQ prog 74 [(0,5),(5,1)] [.slice none 0 0,.int .i64 0,.int .i64 0,.slice none 0 0,.slice none 0 0,.slice none 0 0]:=⟨V,V⟩
theorem wN:dP prog 68 4 4:=⟨V⟩
theorem zL:dP prog 68 5 9:=⟨V⟩
theorem uw:dP prog 68 6 10:=⟨V⟩
theorem uL:Ty prog 66 1 24 [.slice none 0 0] false:=⟨V,V⟩
theorem aeE:aS 110:=aT func110 M
theorem aeJ:aS 140:=aT func140 M
theorem apw:aS 203:=aT func203 M
theorem aoH:aS 142:=aT func142 M
theorem aoG:aS 141:=aT func141 M
def kg (x:au):Nat:=if x.kind=1 then uS x.text else 1
def Pg (x:au):Int:=if x.kind=1 then Me x.text else 0
def QL (l:List au):Bool:=l.all fun x=>decide (Pg x=0)
def I4:List au->Nat
 | []=>0
 | x :: l=>kg x+I4 l
def FB (l:List au):Int:=if QL l then I4 l else 0
def pz:List au->Nat
 | []=>0
 | x :: l=>x.text.size+1+pz l
theorem I5 (l m:List au):pz (l++m)=pz l+pz m:=by
 induction l with
 | nil=>simp [pz]
 | cons x l ih=>simp [pz,ih];omega
theorem ajV (l:List au) (k:Nat):pz (l.take k)<=pz l:=by
 have:=I5 (l.take k) (l.drop k);rw [List.take_append_drop] at this;omega
theorem Kh {G:GH} {l:List au} {A:Option Addr} {k:Nat} (hk:k < l.length) (hg:∀ k r,(l.map au.dat)[k]?=some r->∃ b o cs,A=some ⟨b,o,none⟩∧cs.length=11∧(∀ j u,cs[j]?=some u->aH G b (o+k*11+j)=some u)∧bB G r cs) :
  ∃ b o pA pn pc dA dn dc yA yn yc fA fn fc rA rn rc,A=some ⟨b,o,none⟩∧(∀ j u,[vi l[k].kind,vi l[k].code,vi l[k].id,.string l[k].text,.slice pA pn pc,vi l[k].head.marks.ins,vi l[k].head.marks.move,.slice dA dn dc,.slice yA yn yc,.slice fA fn fc,.slice rA rn rc][j]?=some u->aH G b (o+k*11+j)=some u) ∧
   jr G l[k].head (.slice pA pn pc) (.slice dA dn dc) (.slice yA yn yc)∧ak G (.sl 11 (l[k].flow.map au.dat)) (.slice fA fn fc)∧ak G (.sl 6 (l[k].rows.map aV.dat)) (.slice rA rn rc):=by
 obtain ⟨b,o,cs,h1,h2,h3,h4⟩:=hg k l[k].dat (by simp [hk]);obtain ⟨pA,pn,pc,dA,dn,dc,yA,yn,yc,fA,fn,fc,rA,rn,rc,rfl,h5,h6,h7⟩:=h4.item;exact ⟨b,o,pA,pn,pc,dA,dn,dc,yA,yn,yc,fA,fn,fc,rA,rn,rc,h1,h3,h5,h6,h7⟩
theorem YZ:∀ l:List au,l.length<=pz l
 | []=>eG _
 | x :: l=>by have:=YZ l;simp only [lW,pz];omega
theorem ajU:∀ l:List au,pz l<=dH l
 | []=>eG _
 | x :: l=>by
  have:=ajU l;have h2:=Ag x
  simp only [pz,dH,fD,fu] at *;omega
theorem V4 (G:GH) (w0:World) (hG:Hold G w0) (rows:List (List Dat)) (A:Option Addr) (n c:Nat) (hv:ak G (.sl 2 rows) (.slice A n c)) (hz:rows.length<=4294967296) :
  Calls prog 168 #[.slice A n c] w0 (bG w0 G fun v G'=>ak G' (.sl 2 rows) v):=by
 obtain ⟨hn,hc1,hc2,hnil,hx⟩:=hv.cells;refine eN [(0,_)] func168 M ntmps168 M M hG ?_;intro a H;refine kP H (SR fun _ K1=>aj K1 M (SQ fun _ K2=>SR fun _ K3=>Rm M ?_));clear H K1;intro a H;refine CU gV H wn M M ?_;clear H;intro a H;refine K3 _ _ ?_;clear K3;refine jw H M ?_ ?_
 ·intro h4
  exact kP H (SR fun _ K4=>aj K4 M (LR results168 M fun H=>H.rt (by rw [hnil (by simpa using h4)];exact ak.qK M (by simp [maxLen]))))
 intro h4
 try have p4:=dF h4
 refine iE ?_;refine K2 _ _ ?_;clear K2;refine bO (fun _ K5=>?_)
 have hA:¬ A=none:=by intro e;rw [e] at h4;cases h4
 refine nU ?_;refine Bv gV iA H wn M ?_;clear H;intro b5 a w hb5 H;refine kH H (Rm M ?_);clear H;intro a H
 by_cases hr0:rows=[]
 ·have hn0:n=0:=by rw [hn,hr0];rfl
  subst hn0;refine Bu gV iA H wn M M (eG _) M ?_;clear H;intro a H;exact kH H (bD K5 M (LR results168 M fun H=>H.rt (by rw [hr0];exact ak.qK M (by simp [maxLen]))))
 obtain ⟨b,o,xs,rfl,hxl,hxc,hx1,fK⟩:=hx hr0;refine og (Li:=[]) (Lo:=[_]) (news:=xs) gV iA M M H wn M M dw.empty hxl (fun j u hj=>H.hp.aH (hxc j u hj)) hx1 O O M ?_;clear H;intro v7 Lo a w hrow H;obtain ⟨G',hm,hrep,H⟩:=H.qp hrow (rows:=rows) O (by simpa using fK)
 try clear hG
 obtain ⟨G2,hG2⟩:∃ g,g=G':=⟨_,M⟩;subst hG2;exact kH H (bD K5 M (LR results168 M fun H=>H.rt hrep))
theorem ang (G:GH) (w0:World) (hG:Hold G w0) (rows:List (List Dat)) (A:Option Addr) (n c:Nat) (hv:ak G (.sl 2 rows) (.slice A n c)) (hz:rows.length<=4294967296) :
  Calls prog 169 #[.slice A n c] w0 (bG w0 G fun v G'=>ak G' (.sl 2 rows) v):=by
 obtain ⟨hn,hc1,hc2,hnil,hx⟩:=hv.cells;refine eN [(0,_)] func169 M ntmps169 M M hG ?_;intro a H;refine kP H (SR fun _ K1=>aj K1 M (SQ fun _ K2=>SR fun _ K3=>Rm M ?_));clear H K1;intro a H;refine CU oK H wn M M ?_;clear H;intro a H;refine K3 _ _ ?_;clear K3;refine jw H M ?_ ?_
 ·intro h4
  exact kP H (SR fun _ K4=>aj K4 M (LR results169 M fun H=>H.rt (by rw [hnil (by simpa using h4)];exact ak.qK M (by simp [maxLen]))))
 intro h4
 try have p4:=dF h4
 refine iE ?_;refine K2 _ _ ?_;clear K2;refine bO (fun _ K5=>?_)
 have hA:¬ A=none:=by intro e;rw [e] at h4;cases h4
 refine nU ?_;refine Bv oK oJ H wn M ?_;clear H;intro b5 a w hb5 H;refine kH H (Rm M ?_);clear H;intro a H
 by_cases hr0:rows=[]
 ·have hn0:n=0:=by rw [hn,hr0];rfl
  subst hn0;refine Bu oK oJ H wn M M (eG _) M ?_;clear H;intro a H;exact kH H (bD K5 M (LR results169 M fun H=>H.rt (by rw [hr0];exact ak.qK M (by simp [maxLen]))))
 obtain ⟨b,o,xs,rfl,hxl,hxc,hx1,fK⟩:=hx hr0;refine og (Li:=[]) (Lo:=[_]) (news:=xs) oK oJ M M H wn M M dw.empty hxl (fun j u hj=>H.hp.aH (hxc j u hj)) hx1 O O M ?_;clear H;intro v7 Lo a w hrow H;obtain ⟨G',hm,hrep,H⟩:=H.qp hrow (rows:=rows) O (by simpa using fK)
 try clear hG
 obtain ⟨G2,hG2⟩:∃ g,g=G':=⟨_,M⟩;subst hG2;exact kH H (bD K5 M (LR results169 M fun H=>H.rt hrep))
theorem anl (G:GH) (w0:World) (hG:Hold G w0) (rows:List (List Dat)) (A:Option Addr) (n c:Nat) (hv:ak G (.sl 4 rows) (.slice A n c)) (hz:rows.length<=4294967296) :
  Calls prog 170 #[.slice A n c] w0 (bG w0 G fun v G'=>ak G' (.sl 4 rows) v):=by
 obtain ⟨hn,hc1,hc2,hnil,hx⟩:=hv.cells;refine eN [(0,_)] func170 M ntmps170 M M hG ?_;intro a H;refine kP H (SR fun _ K1=>aj K1 M (SQ fun _ K2=>SR fun _ K3=>Rm M ?_));clear H K1;intro a H;refine CU lU H wn M M ?_;clear H;intro a H;refine K3 _ _ ?_;clear K3;refine jw H M ?_ ?_
 ·intro h4
  exact kP H (SR fun _ K4=>aj K4 M (LR results170 M fun H=>H.rt (by rw [hnil (by simpa using h4)];exact ak.qK M (by simp [maxLen]))))
 intro h4
 try have p4:=dF h4
 refine iE ?_;refine K2 _ _ ?_;clear K2;refine bO (fun _ K5=>?_)
 have hA:¬ A=none:=by intro e;rw [e] at h4;cases h4
 refine nU ?_;refine Bv lU jP H wn M ?_;clear H;intro b5 a w hb5 H;refine kH H (Rm M ?_);clear H;intro a H
 by_cases hr0:rows=[]
 ·have hn0:n=0:=by rw [hn,hr0];rfl
  subst hn0;refine Bu lU jP H wn M M (eG _) M ?_;clear H;intro a H;exact kH H (bD K5 M (LR results170 M fun H=>H.rt (by rw [hr0];exact ak.qK M (by simp [maxLen]))))
 obtain ⟨b,o,xs,rfl,hxl,hxc,hx1,fK⟩:=hx hr0;refine og (Li:=[]) (Lo:=[_]) (news:=xs) lU jP M M H wn M M dw.empty hxl (fun j u hj=>H.hp.aH (hxc j u hj)) hx1 O O M ?_;clear H;intro v7 Lo a w hrow H;obtain ⟨G',hm,hrep,H⟩:=H.qp hrow (rows:=rows) O (by simpa using fK)
 try clear hG
 obtain ⟨G2,hG2⟩:∃ g,g=G':=⟨_,M⟩;subst hG2;exact kH H (bD K5 M (LR results170 M fun H=>H.rt hrep))
theorem alz {p:Prop} (h:p:=by
 exact kH H (Rf qo M fun _ H=>fin H iJ M)):p:=h
theorem VJ {p:Prop} (h:p:=by
 refine gB [] M trivial V tK M M ?_;intro bH a w G1 hG HT H fin;exact alz):p:=h
theorem Vj {p:Prop} (h:p:=by
 clear H;rintro v10 EA a w yY wR H;exact fin H wR (yY)):p:=h
theorem QC (G:GH) (w0:World) (hG:Hold G w0) (h:dN) (pA dA yA:Option Addr) (pn pc dn dc yn yc:Nat) (hv:jr G h (.slice pA pn pc) (.slice dA dn dc) (.slice yA yn yc)) (hz:mX h<=4294967296) :
  Calls prog 108 #[.agg #[.slice pA pn pc,vi h.marks.ins,vi h.marks.move,.slice dA dn dc,.slice yA yn yc]] w0 (bG w0 G fun v G'=>∃ p d l,v=.agg #[p,vi h.marks.ins,vi h.marks.move,d,l]∧jr G' h p d l):=by
 have he:=FU h;have h1:=pK (h.props.map aO.dat);have h2:=pK (h.marks.bK.map gG.dat);have h3:=pK (h.marks.layers.map bZ.dat);refine eN [(0,_)] func108 M ntmps108 M M hG ?_;intro a H;refine dz (fun _ K1=>?_);refine dR (cs:=[_,_,_,_,_]) H wn M M M ?_;clear H;intro b1 a w hb1 H;refine dJ fB H wn M ?_;clear H;intro b2 a w hb2 H;refine K1 _ _ ?_;clear K1;refine kP H (SR fun _ K2=>bQ yR tO 1 M M ?_);clear H;intro a H;refine s_call QN H wn M (V4 _ _ H.ro _ _ _ _ hv.props O) M ?_;clear H;rintro v5 G5 a w wo Fg H;obtain ⟨A5,n5,c5,rfl⟩:=wo.form;refine kH H (Rf yR M ?_);clear H;intro a H;refine bC tO 1 (vs:=[_]) H wn M ?_;clear H;intro w H;refine K2 _ _ ?_;clear K2;refine bO (fun _ K3=>?_);obtain ⟨hvp,hvd,hvy⟩:=hv.mono Fg;clear hv
 have tK:Di (fun (bX:Nat) (v:ah) (G:GH)=>match bX with|0=>v=(aK b1 1)|1=>v=(aK b1 3)|2=>v=.slice dA dn dc|3=>ak G (.sl 2 (h.marks.bK.map gG.dat)) v|4=>v=(aK b1 1)|5=>v=(aK b1 4)|6=>v=.slice yA yn yc|7=>ak G (.sl 4 (h.marks.layers.map bZ.dat)) v|8=>v=(aK b1 1)|9=>v=(aK b1 3)|_=>True):=by intro bX v G G' hm h;(iterate 14 (rcases bX with _|bX;(first|exact h|exact ak.mono hm h)));exact trivial
 refine Ce (hmx) [[],[0],[0,1],[0,1,2],[],[4],[4,5],ra 0 7,ra 0 7,(ra 0 7++[8]),ra 0 10,ra 0 11,ra 0 12,ra 0 13] (ra 10 4) V V _ tK H ?_ ?_
 ·clear H;refine ay ?_ ?_ ?_ ?_ (ay ?_ ?_ ?_ ?_ (ay ?_ ?_ (bT M) (bT M) (bN (bT M) (bN (bT M) dB))))
  ·exact VJ
  ·refine gB [(0,7,_)] M ⟨fun _ _ h=>h,aB⟩ V tK M M ?_;intro bH a w G1 hG HT H fin;exact kH H (Rf uq M fun _ H=>fin H iJ M)
  ·refine gB [(1,8,_)] M ⟨fun _ _ h=>h,aB⟩ V tK M M ?_;intro bH a w G1 hG HT H fin;exact kH H (Ro uK 1 M fun _ H=>fin H iJ M)
  ·refine gB [(2,9,_)] M ⟨fun _ _ h=>h,aB⟩ V tK M M ?_;intro bH a w G1 hG HT H fin;refine s_call aoX H wn M (ang _ _ H.ro _ _ _ _ (hvd.mono hG) O) M ?_;exact Vj
  ·exact VJ
  ·refine gB [(4,11,_)] M ⟨fun _ _ h=>h,aB⟩ V tK M M ?_;intro bH a w G1 hG HT H fin;exact kH H (Rf Au M fun _ H=>fin H iJ M)
  ·refine gB [(5,12,_)] M ⟨fun _ _ h=>h,aB⟩ V tK M M ?_;intro bH a w G1 hG HT H fin;exact kH H (Ro BA 1 M fun _ H=>fin H iJ M)
  ·refine gB [(6,13,_)] M ⟨fun _ _ h=>h,aB⟩ V tK M M ?_;intro bH a w G1 hG HT H fin;refine s_call aoY H wn M (anl _ _ H.ro _ _ _ _ (hvy.mono hG) O) M ?_;clear H;rintro v14 EB a w uY Hr H;exact fin H Hr (uY)
  ·exact VJ
  refine gB [(8,15,_)] M ⟨fun _ _ h=>h,aB⟩ V tK M M ?_;intro bH a w G1 hG HT H fin;exact kH H (Rf uq M fun _ H=>fin H iJ M)
 clear H;intro a w G DT H hv;obtain ⟨u10,Oq,yY⟩:=hv 3 10 Z M;(try dsimp only at yY);obtain ⟨A10,n10,c10,rfl⟩:=yY.form;have H:=H.gZ Oq;obtain ⟨u14,Ot,uY⟩:=hv 7 14 Z M;(try dsimp only at uY);obtain ⟨Um,n14,c14,rfl⟩:=uY.form;have H:=H.gZ Ot;have H:=H.aN (hv 9 16 M M) M;clear hv;refine bC uK 1 (vs:=[_]) H wn M ?_;clear H;intro w H;refine kH H (Rf qo M (Rf Au M ?_));clear H;intro a H;refine bC BA 1 (vs:=[_]) H wn M ?_;clear H;intro w H;refine aG ⟨M,?_⟩;refine K3 _ _ ?_;clear K3;refine dz (fun _ K4=>?_);refine aU fB (cs:=[_,_,_,_,_]) H wn M M (H.hp.cB 1 M M) M ?_;clear H;intro a H;refine bC fB 0 (vs:=[_,_,_,_,_]) H wn M ?_;clear H;intro w H;refine K4 _ _ ?_;clear K4;refine fE ?_;refine (leave1 H results108 (.cons (ny fB (cs:=[_,_,_,_,_]) H M M (H.hp.cB 0 M M)) .nil) ?_).1;exact H.rt ⟨_,_,_,M,wo.mono DT,yY,uY⟩
theorem wY {G:GH} {w:World} (h:Hold G w):gJ G [] w:=⟨h,fun _ h=>(by cases h),fun _ h=>(by cases h),List.Pairwise.nil⟩
theorem aaZ {p:Prop} (h:p:=by
 exact ⟨none,0,by simp,by simp,by simp [maxLen],fun h=>absurd M h⟩):p:=h
theorem JQ {P:Program} {f:FuncId} {args:Array ah} {w0:World} {G:GH} {e sz n:Nat} {rows:List (List Dat)} (hG:Hold G w0) (h:Calls P f args w0 (fV w0 G [] fun u G' L'=>∃ xs,dw e sz u n xs L'∧dx G' sz rows xs)) (hl:rows.length=n) :
  Calls P f args w0 (bG w0 G fun u G'=>ak G' (.sl sz rows) u):=by
 intro cs;obtain ⟨e1,w',fr,⟨v,G',L',rfl,hch,xs,hrow,fK⟩,h2,h3,h4⟩:=h cs;have hp0:Hp w0 (fun k=>k < w0.heap.size) G G ([]++[]) w0:=⟨M,M,M,eG _,fun _ h=>h,fun _ _=>rfl,hG,fun _ _ h=>h,fun _ _ h=>.inl h,fun _ h=>(by cases h),fun _ h=>(by cases h),fun _ h=>(by cases h),List.Pairwise.nil⟩;have hp1:=hp0.change hch;rw [mO] at hp1;refine ⟨_,w',fr,?_,h2,h3,h4⟩
 rcases hrow.2 with ⟨rfl,h5,rfl⟩|⟨b,cap,cur,rfl,rfl,h5,h6,h7,h8⟩
 ·refine hp1.ret ?_;have:rows=[]:=List.eq_nil_of_length_eq_zero O;subst this
  simp only [ak]
  exact aaZ
 have hn:=hp1.vB (b,.cells cur e (0,0)) (by simp);exact (hp1.giveUp 0 M).ret (ak.wz (GH.Jv G' b _) hl h5 h6 h8 (fK.mono fun k o h=>GH.Ju G' hn k o h))
def Db (fv:ah) (w0:World) (G:GH) (d d':List Dat):Prop:=∀ (G1:GH) (w1:World) (cs:List ah),(∀ b o,G b=some o->G1 b=some o)->Hold G1 w1->bB G1 d cs ->
 sJ prog fv [.agg cs.toArray] w1 (bG w1 G1 fun u G'=>∃ cs',u=.agg cs'.toArray∧bB G' d' cs')
abbrev Jd (fv:ah) (w0:World) (G:GH) (d:List Dat):Prop:=Db fv w0 G d d
theorem U4 {p:Prop} (h:p:=by
 exact ⟨O,dw.nil,by simpa using dx.nil,fun _ _ h=>h⟩):p:=h
theorem alH {p:Prop} (h:p:=by
 exact (fK.mono tH).snoc (by simpa using cu) (by rw [zR];rfl)):p:=h
theorem Va {p:Prop} (h:p:=by
 exact H.hp.gL ⟨_,hrw,by rw [jF (by simp)] at fK;exact fK⟩):p:=h
theorem Vk {p:Prop} (h:p:=by
 clear H;intro v19 UE a w Fx H;refine kH H (bD K7 M (SC (Rd M (Rm M ?_))));clear H K7;intro a H;refine aG ?_;refine dY ((k+1,v19,xs++Dy,UE,BI)) (by exact (H.fH (Pl:=[_,_]) (eD:=[]) [] Z M).sub ⟨M,M,M,M,M,aB⟩) ?_
 (try dsimp only);refine ⟨O,Fx,?_,fun b o h=>tH b o (hgm b o h)⟩;rw [kG (by simpa using hk2)];exact alH):p:=h
theorem aez (φ:au->au) (G:GH) (w0:World) (hO:gJ G [] w0) (l:List au) (v fv:ah) (hv:ak G (.sl 11 (l.map au.dat)) v) (hz:l.length<=4294967296) (hf:∀ x∈l,Db fv w0 G x.dat (φ x).dat) :
  Calls prog 140 #[v,fv] w0 (fV w0 G [] fun u G' L'=>∃ xs,dw 68 11 u l.length xs L'∧dx G' 11 (l.map fun x=>(φ x).dat) xs):=by
 obtain ⟨A,c,rfl,hc1,hc2,hg⟩:=hv.slice
 have hml:4294967297<=maxLen:=by decide
 rw [bS] at *;refine jA (N:=22) (T:=[(0,_),(1,_)]) func140 M ntmps140 M M hO ?_;intro a H;refine kP H (SR fun _ K1=>aj K1 M (SR fun _ K2=>aj K2 M (SQ fun _ K3=>SR fun _ K4=>Rm M (Rl jq M (Rm M (Kz K4 (SB ?_)))))));clear H K1 K2 K4;intro a H;skip;refine eX (ι:=Nat × ah × List ah × OL × GH) (Tc:=[(1,_),(8,_),(9,_)]) (Lc:=[]) (fun gh=>[(5,gh.2.1),(10,vi gh.1)]) (fun gh=>[]++gh.2.2.2.1) (fun gh=>gh.2.2.2.2) (fun gh=>gh.1<=l.length∧dw 68 11 gh.2.1 gh.1 gh.2.2.1 gh.2.2.2.1∧dx gh.2.2.2.2 11 ((l.map fun x=>(φ x).dat).take gh.1) gh.2.2.1∧(∀ b o,G b=some o->gh.2.2.2.2 b=some o)) (fun gh=>l.length - gh.1) ((0,.slice none 0 0,[],[],G)) (by exact H.sub ⟨M,M,M,M,M,aB⟩) ?_ ?_
 ·exact U4
 clear H;rintro ⟨k,v,xs,Lo,g⟩ a w hI H;dsimp only at hI H;obtain ⟨hk,hrw,fK,hgm⟩:=hI;dsimp only [lca,bM] at H;refine kP H (SR fun _ K5=>Rc M (Kz K5 (SQ fun _ K6=>Cd M ?_ ?_))) <;> clear H K5
 ·intro h11 a H
  try have sD:=dT h11
  have hk2:k < l.length:=by omega
  obtain ⟨b,o,cs,rfl,hcl,hrow,hrep⟩:=hg k l[k].dat (by simp [hk2]);obtain ⟨pA,pn,pc,dA,dn,dc,yA,yn,yc,fA,fn,fc,rA,rn,rc,rfl,-⟩:=hrep.item;replace hrow:=fun j u hj=>aC hgm (hrow j u hj);refine kP H (Kc K6 (SQ fun _ K7=>SB (SR fun _ K8=>Ri jq gI M M ?_)));clear H K6;intro a H;refine aU gI (cs:=[_,_,_,_,_,_,_,_,_,_,_]) H wn M M (fun j v hj=>H.hp.aH (hrow j v hj)) M ?_;clear H;intro a H;refine dJ gI H wn M ?_;clear H;intro b7 a w xV H;refine bC gI 0 (vs:=[_,_,_,_,_,_,_,_,_,_,_]) H wn M ?_;clear H;intro w H;refine K8 _ _ ?_;clear K8;refine kP H (SC (Rm M (Rm M ?_)));clear H;intro a H;refine aU gI (cs:=[_,_,_,_,_,_,_,_,_,_,_]) H wn M M (H.hp.cB 0 M M) M ?_;clear H;intro a H;refine jO H wn M M (hf _ (lq hk2) _ _ _ hgm H.ro (hrep.mono hgm)) M ?_;clear H;rintro v17 BI a w ⟨Dy,rfl,cu⟩ tH H;obtain ⟨cs,hcs⟩:∃ cs,cs=Dy:=⟨_,M⟩;obtain ⟨pA,pn,pc,dA,dn,dc,yA,yn,yc,fA,fn,fc,rA,rn,rc,zR,-⟩:=cu.item;rw [zR] at H;refine iC jq gI [_,_,_,_,_,_,_,_,_,_,_] [_,_,_,_,_,_,_,_,_,_,_] H wn M M M M M (by intro i q h;match i,h with|0,h=>exact h|n+1,h=>simp at h) M M ?_;clear H;intro b18 a w Rt H;refine og (Li:=[_,_]) (Lo:=Lo) (news:=Dy) jq gI M M H wn M M hrw (by rw [zR];rfl) (by rw [zR];exact H.hp.cB 0 M M) cu.one O O M ?_;exact Vk
 intro h11 a H
 try have sD:=dF h11
 refine dQ ?_;refine K3 _ _ ?_;clear K3;refine kP H (SR fun _ K9=>Rm M (aj K9 M ?_));clear H K9;intro a H;refine lr H results140 M ?_
 obtain rfl:k=l.length:=by omega
 exact Va
theorem aod (φ:au->au) (G:GH) (w0:World) (hG:Hold G w0) (l:List au) (v fv:ah) (hv:ak G (.sl 11 (l.map au.dat)) v) (hz:l.length<=4294967296) (hf:∀ x∈l,Db fv w0 G x.dat (φ x).dat) :
  Calls prog 140 #[v,fv] w0 (bG w0 G fun u G'=>ak G' (.sl 11 (l.map fun x=>(φ x).dat)) u):=JQ hG (aez φ G w0 (wY hG) l v fv hv hz hf) (by simp)
theorem anZ (G:GH) (w0:World) (hG:Hold G w0) (l:List au) (v fv:ah) (hv:ak G (.sl 11 (l.map au.dat)) v) (hz:l.length<=4294967296) (hf:∀ x∈l,Jd fv w0 G x.dat) :
  Calls prog 140 #[v,fv] w0 (bG w0 G fun u G'=>ak G' (.sl 11 (l.map au.dat)) u):=aod (fun x=>x) G w0 hG l v fv hv hz hf
theorem aob (φ:aV->aV) (G:GH) (w0:World) (hO:gJ G [] w0) (l:List aV) (v fv:ah) (hv:ak G (.sl 6 (l.map aV.dat)) v) (hz:l.length<=4294967296) (hf:∀ x∈l,Db fv w0 G x.dat (φ x).dat) :
  Calls prog 110 #[v,fv] w0 (fV w0 G [] fun u G' L'=>∃ xs,dw 74 6 u l.length xs L'∧dx G' 6 (l.map fun x=>(φ x).dat) xs):=by
 obtain ⟨A,c,rfl,hc1,hc2,hg⟩:=hv.slice
 have hml:4294967297<=maxLen:=by decide
 rw [bS] at *;refine jA (N:=22) (T:=[(0,_),(1,_)]) func110 M ntmps110 M M hO ?_;intro a H;refine kP H (SR fun _ K1=>aj K1 M (SR fun _ K2=>aj K2 M (SQ fun _ K3=>SR fun _ K4=>Rm M (Rl nO M (Rm M (Kz K4 (SB ?_)))))));clear H K1 K2 K4;intro a H;skip;refine eX (ι:=Nat × ah × List ah × OL × GH) (Tc:=[(1,_),(8,_),(9,_)]) (Lc:=[]) (fun gh=>[(5,gh.2.1),(10,vi gh.1)]) (fun gh=>[]++gh.2.2.2.1) (fun gh=>gh.2.2.2.2) (fun gh=>gh.1<=l.length∧dw 74 6 gh.2.1 gh.1 gh.2.2.1 gh.2.2.2.1∧dx gh.2.2.2.2 6 ((l.map fun x=>(φ x).dat).take gh.1) gh.2.2.1∧(∀ b o,G b=some o->gh.2.2.2.2 b=some o)) (fun gh=>l.length - gh.1) ((0,.slice none 0 0,[],[],G)) (by exact H.sub ⟨M,M,M,M,M,aB⟩) ?_ ?_
 ·exact U4
 clear H;rintro ⟨k,v,xs,Lo,g⟩ a w hI H;dsimp only at hI H;obtain ⟨hk,hrw,fK,hgm⟩:=hI;dsimp only [lca,bM] at H;refine kP H (SR fun _ K5=>Rc M (Kz K5 (SQ fun _ K6=>Cd M ?_ ?_))) <;> clear H K5
 ·intro h11 a H
  try have sD:=dT h11
  have hk2:k < l.length:=by omega
  obtain ⟨b,o,cs,rfl,hcl,hrow,hrep⟩:=hg k l[k].dat (by simp [hk2]);obtain ⟨pA,pn,pc,dA,dn,dc,yA,yn,yc,fA,fn,fc,rfl,-⟩:=hrep.row;replace hrow:=fun j u hj=>aC hgm (hrow j u hj);refine kP H (Kc K6 (SQ fun _ K7=>SB (SR fun _ K8=>Ri nO jK M M ?_)));clear H K6;intro a H;refine aU jK (cs:=[_,_,_,_,_,_]) H wn M M (fun j v hj=>H.hp.aH (hrow j v hj)) M ?_;clear H;intro a H;refine dJ jK H wn M ?_;clear H;intro b7 a w xV H;refine bC jK 0 (vs:=[_,_,_,_,_,_]) H wn M ?_;clear H;intro w H;refine K8 _ _ ?_;clear K8;refine kP H (SC (Rm M (Rm M ?_)));clear H;intro a H;refine aU jK (cs:=[_,_,_,_,_,_]) H wn M M (H.hp.cB 0 M M) M ?_;clear H;intro a H;refine jO H wn M M (hf _ (lq hk2) _ _ _ hgm H.ro (hrep.mono hgm)) M ?_;clear H;rintro v17 BI a w ⟨Dy,rfl,cu⟩ tH H;obtain ⟨cs,hcs⟩:∃ cs,cs=Dy:=⟨_,M⟩;obtain ⟨pA,pn,pc,dA,dn,dc,yA,yn,yc,fA,fn,fc,zR,-⟩:=cu.row;rw [zR] at H;refine iC nO jK [_,_,_,_,_,_] [_,_,_,_,_,_] H wn M M M M M (by intro i q h;match i,h with|0,h=>exact h|n+1,h=>simp at h) M M ?_;clear H;intro b18 a w Rt H;refine og (Li:=[_,_]) (Lo:=Lo) (news:=Dy) nO jK M M H wn M M hrw (by rw [zR];rfl) (by rw [zR];exact H.hp.cB 0 M M) cu.one O O M ?_;exact Vk
 intro h11 a H
 try have sD:=dF h11
 refine dQ ?_;refine K3 _ _ ?_;clear K3;refine kP H (SR fun _ K9=>Rm M (aj K9 M ?_));clear H K9;intro a H;refine lr H results110 M ?_
 obtain rfl:k=l.length:=by omega
 exact Va
theorem aeB (φ:aV->aV) (G:GH) (w0:World) (hG:Hold G w0) (l:List aV) (v fv:ah) (hv:ak G (.sl 6 (l.map aV.dat)) v) (hz:l.length<=4294967296) (hf:∀ x∈l,Db fv w0 G x.dat (φ x).dat) :
  Calls prog 110 #[v,fv] w0 (bG w0 G fun u G'=>ak G' (.sl 6 (l.map fun x=>(φ x).dat)) u):=JQ hG (aob φ G w0 (wY hG) l v fv hv hz hf) (by simp)
theorem aoc (G:GH) (w0:World) (hG:Hold G w0) (l:List aV) (v fv:ah) (hv:ak G (.sl 6 (l.map aV.dat)) v) (hz:l.length<=4294967296) (hf:∀ x∈l,Jd fv w0 G x.dat) :
  Calls prog 110 #[v,fv] w0 (bG w0 G fun u G'=>ak G' (.sl 6 (l.map aV.dat)) u):=aeB (fun x=>x) G w0 hG l v fv hv hz hf
theorem aoa (φ:aX->aX) (G:GH) (w0:World) (hO:gJ G [] w0) (l:List aX) (v fv:ah) (hv:ak G (.sl 7 (l.map aX.dat)) v) (hz:l.length<=4294967296) (hf:∀ x∈l,Db fv w0 G x.dat (φ x).dat) :
  Calls prog 172 #[v,fv] w0 (fV w0 G [] fun u G' L'=>∃ xs,dw 76 7 u l.length xs L'∧dx G' 7 (l.map fun x=>(φ x).dat) xs):=by
 obtain ⟨A,c,rfl,hc1,hc2,hg⟩:=hv.slice
 have hml:4294967297<=maxLen:=by decide
 rw [bS] at *;refine jA (N:=22) (T:=[(0,_),(1,_)]) func172 M ntmps172 M M hO ?_;intro a H;refine kP H (SR fun _ K1=>aj K1 M (SR fun _ K2=>aj K2 M (SQ fun _ K3=>SR fun _ K4=>Rm M (Rl qh M (Rm M (Kz K4 (SB ?_)))))));clear H K1 K2 K4;intro a H;skip;refine eX (ι:=Nat × ah × List ah × OL × GH) (Tc:=[(1,_),(8,_),(9,_)]) (Lc:=[]) (fun gh=>[(5,gh.2.1),(10,vi gh.1)]) (fun gh=>[]++gh.2.2.2.1) (fun gh=>gh.2.2.2.2) (fun gh=>gh.1<=l.length∧dw 76 7 gh.2.1 gh.1 gh.2.2.1 gh.2.2.2.1∧dx gh.2.2.2.2 7 ((l.map fun x=>(φ x).dat).take gh.1) gh.2.2.1∧(∀ b o,G b=some o->gh.2.2.2.2 b=some o)) (fun gh=>l.length - gh.1) ((0,.slice none 0 0,[],[],G)) (by exact H.sub ⟨M,M,M,M,M,aB⟩) ?_ ?_
 ·exact U4
 clear H;rintro ⟨k,v,xs,Lo,g⟩ a w hI H;dsimp only at hI H;obtain ⟨hk,hrw,fK,hgm⟩:=hI;dsimp only [lca,bM] at H;refine kP H (SR fun _ K5=>Rc M (Kz K5 (SQ fun _ K6=>Cd M ?_ ?_))) <;> clear H K5
 ·intro h11 a H
  try have sD:=dT h11
  have hk2:k < l.length:=by omega
  obtain ⟨b,o,cs,rfl,hcl,hrow,hrep⟩:=hg k l[k].dat (by simp [hk2]);obtain ⟨pA,pn,pc,dA,dn,dc,yA,yn,yc,fA,fn,fc,rfl,-⟩:=hrep.cell;replace hrow:=fun j u hj=>aC hgm (hrow j u hj);refine kP H (Kc K6 (SQ fun _ K7=>SB (SR fun _ K8=>Ri qh kE M M ?_)));clear H K6;intro a H;refine aU kE (cs:=[_,_,_,_,_,_,_]) H wn M M (fun j v hj=>H.hp.aH (hrow j v hj)) M ?_;clear H;intro a H;refine dJ kE H wn M ?_;clear H;intro b7 a w xV H;refine bC kE 0 (vs:=[_,_,_,_,_,_,_]) H wn M ?_;clear H;intro w H;refine K8 _ _ ?_;clear K8;refine kP H (SC (Rm M (Rm M ?_)));clear H;intro a H;refine aU kE (cs:=[_,_,_,_,_,_,_]) H wn M M (H.hp.cB 0 M M) M ?_;clear H;intro a H;refine jO H wn M M (hf _ (lq hk2) _ _ _ hgm H.ro (hrep.mono hgm)) M ?_;clear H;rintro v17 BI a w ⟨Dy,rfl,cu⟩ tH H;obtain ⟨cs,hcs⟩:∃ cs,cs=Dy:=⟨_,M⟩;obtain ⟨pA,pn,pc,dA,dn,dc,yA,yn,yc,fA,fn,fc,zR,-⟩:=cu.cell;rw [zR] at H;refine iC qh kE [_,_,_,_,_,_,_] [_,_,_,_,_,_,_] H wn M M M M M (by intro i q h;match i,h with|0,h=>exact h|n+1,h=>simp at h) M M ?_;clear H;intro b18 a w Rt H;refine og (Li:=[_,_]) (Lo:=Lo) (news:=Dy) qh kE M M H wn M M hrw (by rw [zR];rfl) (by rw [zR];exact H.hp.cB 0 M M) cu.one O O M ?_;exact Vk
 intro h11 a H
 try have sD:=dF h11
 refine dQ ?_;refine K3 _ _ ?_;clear K3;refine kP H (SR fun _ K9=>Rm M (aj K9 M ?_));clear H K9;intro a H;refine lr H results172 M ?_
 obtain rfl:k=l.length:=by omega
 exact Va
theorem aeA (φ:aX->aX) (G:GH) (w0:World) (hG:Hold G w0) (l:List aX) (v fv:ah) (hv:ak G (.sl 7 (l.map aX.dat)) v) (hz:l.length<=4294967296) (hf:∀ x∈l,Db fv w0 G x.dat (φ x).dat) :
  Calls prog 172 #[v,fv] w0 (bG w0 G fun u G'=>ak G' (.sl 7 (l.map fun x=>(φ x).dat)) u):=JQ hG (aoa φ G w0 (wY hG) l v fv hv hz hf) (by simp)
theorem anY (G:GH) (w0:World) (hG:Hold G w0) (l:List aX) (v fv:ah) (hv:ak G (.sl 7 (l.map aX.dat)) v) (hz:l.length<=4294967296) (hf:∀ x∈l,Jd fv w0 G x.dat) :
  Calls prog 172 #[v,fv] w0 (bG w0 G fun u G'=>ak G' (.sl 7 (l.map aX.dat)) u):=aeA (fun x=>x) G w0 hG l v fv hv hz hf
def FX (n:Nat):Prop:=∀ (G:GH) (w0:World),Hold G w0->∀ (l:List au) (v:ah),ak G (.sl 11 (l.map au.dat)) v->dH l < n ->
 Calls prog 80 #[v] w0 (bG w0 G fun u G'=>ak G' (.sl 11 (l.map au.dat)) u)
theorem JE {p:Prop} (h:p:=by
 exact fin H iJ M):p:=h
theorem abv {p:Prop} (h:p:=by
 exact kH H (Ro kW 1 M fun _ H=>fin H iJ M)):p:=h
theorem jG {p:Prop} (h:p:=by
 clear H;intro a H;exact JE):p:=h
theorem acF {p:Prop} (h:p:=by
 refine gB [(3,6,_)] M ⟨fun _ _ h=>h,aB⟩ V iN M M ?_;intro bH a w G1 hG HT H fin;refine s_call QM H wn M (QC _ _ H.ro x.head _ _ _ _ _ _ _ _ _ (hh.mono hG) O) M ?_;clear H;rintro v7 G7 a w tJ Xz H;exact fin H Xz (tJ)):p:=h
theorem ada {p:Prop} (h:p:=by
 refine gB [(0,3,_)] M ⟨fun _ _ h=>h,aB⟩ V iN M M ?_;intro bH a w G1 hG HT H fin;exact kH H (Ro aF 1 M fun _ H=>fin H iJ M)):p:=h
theorem ade {p:Prop} (h:p:=by
 refine gB [] M trivial V iN M M ?_;intro bH a w G1 hG HT H fin;exact kH H (Rf NA M fun _ H=>fin H iJ M)):p:=h
theorem adf {p:Prop} (h:p:=by
 refine gB [] M trivial V iN M M ?_;intro bH a w G1 hG HT H fin;exact kH H (Rf Ke M fun _ H=>fin H iJ M)):p:=h
theorem adg {p:Prop} (h:p:=by
 refine gB [] M trivial V iN M M ?_;intro bH a w G1 hG HT H fin;exact kH H (Rf GZ M fun _ H=>fin H iJ M)):p:=h
theorem adk {p:Prop} (h:p:=by
 refine gB [(5,8,_)] M ⟨fun _ _ h=>h,aB⟩ V iN M M ?_;intro bH a w G1 hG HT H fin;exact abv):p:=h
theorem Vo {p:Prop} (h:p:=by
 refine aU fB (cs:=[_,_,_,_,_]) H wn M M (H.hp.cB 1 M M) M ?_;exact jG):p:=h
theorem acv {p:Prop} (h:p:=by
 refine gB [(2,5,_)] M ⟨fun _ _ h=>h,aB⟩ V iN M M ?_;intro bH a w G1 hG HT H fin;exact Vo):p:=h
theorem anf {n:Nat} (ih:FX n) (hn:n<=4294967296) (G:GH) (w0:World) (hG:Hold G w0) (x:aX) (cs:List ah) (hv:bB G x.dat cs) (hz:dD x.dat < n+1) :
  Calls prog 203 #[.agg cs.toArray] w0 (bG w0 G fun u G'=>∃ cs',u=.agg cs'.toArray∧bB G' x.dat cs'):=by
 have he:=Ev x;obtain ⟨pA,pn,pc,dA,dn,dc,yA,yn,yc,fA,fn,fc,rfl,hh,hf⟩:=hv.cell;refine eN [(0,_)] func203 M ntmps203 M M hG ?_;intro a H;refine dz (fun _ K1=>?_);refine dR (cs:=[_,_,_,_,_,_,_]) H wn M M M ?_;clear H;intro b1 a w hb1 H;refine dJ kE H wn M ?_;clear H;intro b2 a w hb2 H;refine K1 _ _ ?_;clear K1;refine bO (fun _ K2=>?_)
 have iN:Di (fun (bX:Nat) (v:ah) (G:GH)=>match bX with|0=>v=(aK b1 0)|1=>v=vi x.id|2=>v=(aK b1 1)|3=>v=.agg #[.slice pA pn pc,vi x.head.marks.ins,vi x.head.marks.move,.slice dA dn dc,.slice yA yn yc]|4=>∃ p d l,v=.agg #[p,vi x.head.marks.ins,vi x.head.marks.move,d,l]∧jr G x.head p d l|5=>v=(aK b1 6)|6=>v=.slice fA fn fc|7=>ak G (.sl 11 (x.flow.map au.dat)) v|_=>True):=by intro bX v G G' hm h;(iterate 10 (rcases bX with _|bX;(first|exact h|exact let ⟨p,d,l,h1,h2⟩:=h;⟨p,d,l,h1,h2.mono hm⟩|exact ak.mono hm h)));exact trivial
 refine Ce (hmx) [[],[0],[],[2],[2,3],[],[5],ra 2 5,ra 0 8,ra 0 9] [8,9] V V _ iN H ?_ ?_
 ·clear H;refine ay ?_ ?_ ?_ ?_ (ay ?_ ?_ ?_ ?_ (bN (bT M) (bN (bT M) dB)))
  ·exact ade
  ·exact ada
  ·exact adf
  ·exact acv
  ·exact acF
  ·exact adg
  ·exact adk
  refine gB [(6,9,_)] M ⟨fun _ _ h=>h,aB⟩ V iN M M ?_;intro bH a w G1 hG HT H fin;refine s_call WH H wn M (ih _ _ H.ro x.flow _ (hf.mono hG) O) M ?_;exact Vj
 clear H;intro a w G jC H hv;have H:=H.aN (hv 1 4 M M) M;obtain ⟨u7,Yr,tJ⟩:=hv 4 7 Z M;(try dsimp only at tJ);obtain ⟨p7,d7,l7,rfl,AZ⟩:=tJ;obtain ⟨a1,a2,a3,rfl⟩:=AZ.props.form;obtain ⟨a4,a5,a6,rfl⟩:=AZ.bK.form;obtain ⟨a7,a8,a9,rfl⟩:=AZ.layers.form;have H:=H.gZ Yr;obtain ⟨u10,Oq,yY⟩:=hv 7 10 Z M;(try dsimp only at yY);obtain ⟨A10,n10,c10,rfl⟩:=yY.form;have H:=H.gZ Oq;clear hv;refine jU ZY [_,_,_,_,_,_,_] H wn M M M M ?_;clear H;intro a H;refine bC kE 0 (vs:=[_,_,_,_,_,_,_]) H wn M ?_;clear H;intro w H;refine aG ⟨M,?_⟩;refine K2 _ _ ?_;clear K2;refine fE ?_;refine (leave1 H results203 (.cons (ny kE (cs:=[_,_,_,_,_,_,_]) H M M (H.hp.cB 0 M M)) .nil) ?_).1;exact H.rt ⟨_,M,bB.Sq AZ yY⟩
theorem ane {n:Nat} (ih:FX n) (hn:n<=4294967296) {G:GH} {w0:World} (x:aX) (hz:dD x.dat < n+1):Jd (.func (.func 203) #[] #[]) w0 G x.dat:=by
 intro G1 w1 cs hm1 hG1 hr;have h:=anf ih hn _ _ hG1 x cs hr hz;have h2:=jy (P:=prog) (caps:=[]) (args:=[.agg cs.toArray]) apw h;exact h2
theorem Vy {p:Prop} (h:p:=by
 refine gB [(1,4,_)] M ⟨fun _ _ h=>h,aB⟩ V iN M M ?_;intro bH a w G1 hG HT H fin;refine s_call QM H wn M (QC _ _ H.ro x.head _ _ _ _ _ _ _ _ _ (hh.mono hG) O) M ?_;clear H;rintro v5 G5 a w wo oD H;exact fin H oD (wo)):p:=h
theorem acZ {p:Prop} (h:p:=by
 refine gB [(3,6,_)] M ⟨fun _ _ h=>h,aB⟩ V iN M M ?_;intro bH a w G1 hG HT H fin;exact kH H (Ro Ad 1 M fun _ H=>fin H iJ M)):p:=h
theorem adh {p:Prop} (h:p:=by
 refine gB [] M trivial V iN M M ?_;intro bH a w G1 hG HT H fin;exact kH H (Rf Ka M fun _ H=>fin H iJ M)):p:=h
theorem adi {p:Prop} (h:p:=by
 refine gB [] M trivial V iN M M ?_;intro bH a w G1 hG HT H fin;exact kH H (Rf zM M fun _ H=>fin H iJ M)):p:=h
theorem Vl {p:Prop} (h:p:=by
 clear H;rintro v8 G8 a w pV tC H;exact fin H tC (pV)):p:=h
theorem Vw {p:Prop} (h:p:=by
 refine gB [(0,3,_)] M ⟨fun _ _ h=>h,aB⟩ V iN M M ?_;intro bH a w G1 hG HT H fin;exact Vo):p:=h
theorem anv {n:Nat} (ih:FX n) (hn:n<=4294967296) (G:GH) (w0:World) (hG:Hold G w0) (x:aV) (cs:List ah) (hv:bB G x.dat cs) (hz:dD x.dat < n+1) :
  Calls prog 142 #[.agg cs.toArray] w0 (bG w0 G fun u G'=>∃ cs',u=.agg cs'.toArray∧bB G' x.dat cs'):=by
 have he:=Ew x;have hl:=Px x.cells;obtain ⟨pA,pn,pc,dA,dn,dc,yA,yn,yc,fA,fn,fc,rfl,hh,hf⟩:=hv.row;refine eN [(0,_)] func142 M ntmps142 M M hG ?_;intro a H;refine dz (fun _ K1=>?_);refine dR (cs:=[_,_,_,_,_,_]) H wn M M M ?_;clear H;intro b1 a w hb1 H;refine dJ jK H wn M ?_;clear H;intro b2 a w hb2 H;refine K1 _ _ ?_;clear K1;refine bO (fun _ K2=>?_)
 have iN:Di (fun (bX:Nat) (v:ah) (G:GH)=>match bX with|0=>v=(aK b1 0)|1=>v=.agg #[.slice pA pn pc,vi x.head.marks.ins,vi x.head.marks.move,.slice dA dn dc,.slice yA yn yc]|2=>∃ p d l,v=.agg #[p,vi x.head.marks.ins,vi x.head.marks.move,d,l]∧jr G x.head p d l|3=>v=(aK b1 5)|4=>v=.slice fA fn fc|5=>ak G (.sl 7 (x.cells.map aX.dat)) v|_=>True):=by intro bX v G G' hm h;(iterate 8 (rcases bX with _|bX;(first|exact h|exact let ⟨p,d,l,h1,h2⟩:=h;⟨p,d,l,h1,h2.mono hm⟩|exact ak.mono hm h)));exact trivial
 refine Ce (hmx) [[],[0],[0,1],[],[3],ra 0 5,ra 0 6,ra 0 7] [6,7] V V _ iN H ?_ ?_
 ·clear H;refine ay ?_ ?_ ?_ ?_ (ay ?_ ?_ (bT M) (bT M) dB)
  ·exact adh
  ·exact Vw
  ·exact Vy
  ·exact adi
  ·exact acZ
  refine gB [(4,7,_)] M ⟨fun _ _ h=>h,aB⟩ V iN M M ?_;intro bH a w G1 hG HT H fin;refine s_call aeN H wn M (anY _ _ H.ro x.cells _ _ (hf.mono hG) O (fun y hy=>ane ih hn y (by have:=akB hy;omega))) rfl ?_;exact Vl
 clear H;intro a w G jC H hv;obtain ⟨u5,Iq,wo⟩:=hv 2 5 Z M;(try dsimp only at wo);obtain ⟨p5,d5,l5,rfl,uD⟩:=wo;obtain ⟨a1,a2,a3,rfl⟩:=uD.props.form;obtain ⟨a4,a5,a6,rfl⟩:=uD.bK.form;obtain ⟨a7,a8,a9,rfl⟩:=uD.layers.form;have H:=H.gZ Iq;obtain ⟨u8,Bh,pV⟩:=hv 5 8 Z M;(try dsimp only at pV);obtain ⟨A8,n8,c8,rfl⟩:=pV.form;have H:=H.gZ Bh;clear hv;refine jU ZX [_,_,_,_,_,_] H wn M M M M ?_;clear H;intro a H;refine bC jK 0 (vs:=[_,_,_,_,_,_]) H wn M ?_;clear H;intro w H;refine aG ⟨M,?_⟩;refine K2 _ _ ?_;clear K2;refine fE ?_;refine (leave1 H results142 (.cons (ny jK (cs:=[_,_,_,_,_,_]) H M M (H.hp.cB 0 M M)) .nil) ?_).1;exact H.rt ⟨_,M,bB.Sr uD pV⟩
theorem anu {n:Nat} (ih:FX n) (hn:n<=4294967296) {G:GH} {w0:World} (x:aV) (hz:dD x.dat < n+1):Jd (.func (.func 142) #[] #[]) w0 G x.dat:=by
 intro G1 w1 cs hm1 hG1 hr;have h:=anv ih hn _ _ hG1 x cs hr hz;have h2:=jy (P:=prog) (caps:=[]) (args:=[.agg cs.toArray]) aoH h;exact h2
theorem anc {n:Nat} (ih:FX n) (hn:n<=4294967296) (G:GH) (w0:World) (hG:Hold G w0) (x:au) (cs:List ah) (hv:bB G x.dat cs) (hz:dD x.dat < n+1) :
  Calls prog 141 #[.agg cs.toArray] w0 (bG w0 G fun u G'=>∃ cs',u=.agg cs'.toArray∧bB G' x.dat cs'):=by
 have he:=Ag x;have hl:=Pz x.rows;obtain ⟨pA,pn,pc,dA,dn,dc,yA,yn,yc,fA,fn,fc,rA,rn,rc,rfl,hh,hf,hr⟩:=hv.item;refine eN [(0,_)] func141 M ntmps141 M M hG ?_;intro a H;refine dz (fun _ K1=>?_);refine dR (cs:=[_,_,_,_,_,_,_,_,_,_,_]) H wn M M M ?_;clear H;intro b1 a w hb1 H;refine dJ gI H wn M ?_;clear H;intro b2 a w hb2 H;refine K1 _ _ ?_;clear K1;refine bO (fun _ K2=>?_)
 have iN:Di (fun (bX:Nat) (v:ah) (G:GH)=>match bX with|0=>v=(aK b1 4)|1=>v=.agg #[.slice pA pn pc,vi x.head.marks.ins,vi x.head.marks.move,.slice dA dn dc,.slice yA yn yc]|2=>∃ p d l,v=.agg #[p,vi x.head.marks.ins,vi x.head.marks.move,d,l]∧jr G x.head p d l|3=>v=(aK b1 9)|4=>v=.slice fA fn fc|5=>ak G (.sl 11 (x.flow.map au.dat)) v|6=>v=(aK b1 10)|7=>v=.slice rA rn rc|8=>ak G (.sl 6 (x.rows.map aV.dat)) v|9=>v=(aK b1 4)|_=>True):=by intro bX v G G' hm h;(iterate 15 (rcases bX with _|bX;(first|exact h|exact let ⟨p,d,l,h1,h2⟩:=h;⟨p,d,l,h1,h2.mono hm⟩|exact ak.mono hm h)));exact trivial
 refine Ce (hmx) [[],[0],[0,1],[],[3],ra 0 5,[],[6],ra 0 8,[0,1,2,3,4,6,7],ra 0 10,ra 0 11,ra 0 12,ra 0 13,ra 0 14] (ra 10 5) V V _ iN H ?_ ?_
 ·clear H;refine ay ?_ ?_ ?_ ?_ (ay ?_ ?_ ?_ ?_ (ay ?_ ?_ (bT M) (bT M) (bN (bT M) (bN (bT M) (bN (bT M) dB)))))
  ·refine gB [] M trivial V iN M M ?_;intro bH a w G1 hG HT H fin;exact kH H (Rf wN M fun _ H=>fin H iJ M)
  ·exact Vw
  ·exact Vy
  ·refine gB [] M trivial V iN M M ?_;intro bH a w G1 hG HT H fin;exact kH H (Rf zL M fun _ H=>fin H iJ M)
  ·refine gB [(3,6,_)] M ⟨fun _ _ h=>h,aB⟩ V iN M M ?_;intro bH a w G1 hG HT H fin;exact abv
  ·refine gB [(4,7,_)] M ⟨fun _ _ h=>h,aB⟩ V iN M M ?_;intro bH a w G1 hG HT H fin;refine s_call WH H wn M (ih _ _ H.ro x.flow _ (hf.mono hG) O) M ?_;exact Vl
  ·refine gB [] M trivial V iN M M ?_;intro bH a w G1 hG HT H fin;exact kH H (Rf uw M fun _ H=>fin H iJ M)
  ·refine gB [(6,9,_)] M ⟨fun _ _ h=>h,aB⟩ V iN M M ?_;intro bH a w G1 hG HT H fin;exact kH H (Ro uL 1 M fun _ H=>fin H iJ M)
  ·refine gB [(7,10,_)] M ⟨fun _ _ h=>h,aB⟩ V iN M M ?_;intro bH a w G1 hG HT H fin;refine s_call aeE H wn M (aoc _ _ H.ro x.rows _ _ (hr.mono hG) O (fun y hy=>anu ih hn y (by have:=akF hy;omega))) rfl ?_;clear H;rintro v11 zx a w xY tu H;exact fin H tu (xY)
  refine gB [] M trivial V iN M M ?_;intro bH a w G1 hG HT H fin;exact kH H (Rf wN M fun _ H=>fin H iJ M)
 clear H;intro a w G jC H hv;obtain ⟨u5,Iq,wo⟩:=hv 2 5 Z M;(try dsimp only at wo);obtain ⟨p5,d5,l5,rfl,uD⟩:=wo;obtain ⟨a1,a2,a3,rfl⟩:=uD.props.form;obtain ⟨a4,a5,a6,rfl⟩:=uD.bK.form;obtain ⟨a7,a8,a9,rfl⟩:=uD.layers.form;have H:=H.gZ Iq;obtain ⟨u8,Bh,pV⟩:=hv 5 8 Z M;(try dsimp only at pV);obtain ⟨A8,n8,c8,rfl⟩:=pV.form;have H:=H.gZ Bh;obtain ⟨u11,Ip,xY⟩:=hv 8 11 Z M;(try dsimp only at xY);obtain ⟨A11,n11,c11,rfl⟩:=xY.form;have H:=H.gZ Ip;have H:=H.aN (hv 9 12 M M) M;clear hv;refine bC fB 1 (vs:=[_,_,_,_,_]) H wn M ?_;clear H;intro w H;refine kH H (Rf zL M ?_);clear H;intro a H;refine bC kW 1 (vs:=[_]) H wn M ?_;clear H;intro w H;refine kH H (Rf uw M ?_);clear H;intro a H;refine bC uL 1 (vs:=[_]) H wn M ?_;clear H;intro w H;refine aG ⟨M,?_⟩;refine K2 _ _ ?_;clear K2;refine dz (fun _ K3=>?_);refine aU gI (cs:=[_,_,_,_,_,_,_,_,_,_,_]) H wn M M (H.hp.cB 1 M M) M ?_;clear H;intro a H;refine bC gI 0 (vs:=[_,_,_,_,_,_,_,_,_,_,_]) H wn M ?_;clear H;intro w H;refine K3 _ _ ?_;clear K3;refine fE ?_;refine (leave1 H results141 (.cons (ny gI (cs:=[_,_,_,_,_,_,_,_,_,_,_]) H M M (H.hp.cB 0 M M)) .nil) ?_).1;exact H.rt ⟨_,M,bB.mkItem uD pV xY⟩
theorem adQ {n:Nat} (ih:FX n) (hn:n<=4294967296) {G:GH} {w0:World} (x:au) (hz:dD x.dat < n+1):Jd (.func (.func 141) #[] #[]) w0 G x.dat:=by
 intro G1 w1 cs hm1 hG1 hr;have h:=anc ih hn _ _ hG1 x cs hr hz;have h2:=jy (P:=prog) (caps:=[]) (args:=[.agg cs.toArray]) aoG h;exact h2
theorem V5:∀ n:Nat,n<=4294967297->FX n
 | 0,_=>fun _ _ _ _ _ _ h=>absurd h O
 | n+1,hn=>by
  intro G w0 hG l v hv hz;have ih:=V5 n O;have hl:=Mh l;refine eN [(0,_)] func80 M ntmps80 M M hG ?_;intro a H;refine kP H (SR fun _ K1=>aj K1 M (SR fun _ K2=>Rm M ?_));clear H K1;intro a H;refine s_call aeJ H wn M (anZ _ _ H.ro l _ _ hv O (fun y hy=>adQ ih O y (by have:=aar hy;omega))) rfl ?_;clear H;rintro v4 G4 a w Yd Km H;exact kH H (aj K2 M (LR results80 M fun H=>H.rt Yd))
section
section
variable {P:Program} {N:Nat} {D:List Deferred} {w0 w w':World} {F:Nat->Prop} {G0 G G':GH} {L L' Li Lo:OL} {T:List (Nat × ah)} {a a':Act} {Q:Exit->Act->World->Prop}
theorem St.cast (h:St N D w0 F G0 G L T a w) (e:L=L'):St N D w0 F G0 G L' T a w:=e ▸ h
theorem St.assoc {A B C:OL} (h:St N D w0 F G0 G ((A++B)++C) T a w):St N D w0 F G0 G (A++(B++C)) T a w:=h.cast (jv _ _ _)
theorem St.un {A B C:OL} (h:St N D w0 F G0 G (A++(B++C)) T a w):St N D w0 F G0 G ((A++B)++C) T a w:=h.cast (jv _ _ _).symm
theorem St.OA {A B:OL} (h:St N D w0 F G0 G (A++B) T a w):St N D w0 F G0 G (A++(B++[])) T a w:=h.cast (by rw [ig])
theorem amq {ι κ:Type} {Lc:OL} {Av:Operand} {ps:List Nat} {assign body:Code} {gf:FuncId} {caps:List ah} {xs:List AP} {Gi:GH}
  (Lv:Nat->ι->OL) (Lt:Nat->ι->OL) (inv:Nat->ι->GH->Prop) (cx:κ->Code) (Lx Gg:κ->OL) (Bl:κ->GH->Prop) (i0:ι)
  (H:St N D w0 F G0 G (Lc++Lv 0 i0++Lt 0 i0) T a w) (hg:ev T Av=some (.func (.func gf) #[] caps.toArray)) (en:∀ args w,(callFunc gf args).run P w=.ok (.enter gf args) w) (hit:Iter P Gi (.func (.func gf) #[] caps.toArray) xs) (hGi:∀ b o,Gi b=some o->G b=some o)
  (hps:ps.all (Nat.blt · N)=true) (hlen:∀ k args g,zw xs k args g->args.length=ps.length) (hinv:∀ k i (G G':GH),(∀ b o,G b=some o->G' b=some o)->inv k i G->inv k i G') (XV:∀ x (G G':GH),(∀ b o,G b=some o->G' b=some o)->Bl x G->Bl x G') (h0:inv 0 i0 G)
  (round:∀ (l:Nat) (IX Dw:Obj) (bk:OL) (k:Nat) (args:List ah) (i:ι) (G1:GH) (w1:World) (F1:Nat->Prop) (B1:Code->Exit->Act->World->Prop) (a1:Act),zw xs k args G1->(∀ b o,G b=some o->G1 b=some o)->inv k i G1 ->
   (∀ T' G2 L2 a2 w2 c,St N [] w1 F1 G1 G2 ((l,IX) :: L2) T' a2 w2->(∀ w3,St N [] w1 F1 G1 G2 ((l,Dw) :: L2) T' a2 w3->WP (some l) P c (B1 c) a2 w3)->Exit.then (fun a2 w2=>∃ w3,(Instr.beginRound l).run P w2=.ok () w3∧c.wpIn (FW (some l)) 0 P (B1 c) a2 w3) (fun _ _ _=>False) .normal a2 w2) ->
   (∀ i' T' G2 a2 w2 c,St N [] w1 F1 G1 G2 ((l,Dw) :: (Lc++Lv (k+1) i'++(bk++Lt (k+1) i'))) T' a2 w2->inv (k+1) i' G2->B1 c .normal a2 w2) ->
   (∀ x T' G2 a2 w2 c,St N [] w1 F1 G1 G2 ((l,Dw) :: (Lc++Lx x++(bk++Gg x))) T' a2 w2->Bl x G2->(cx x=.ret->B1 c .ret a2 w2)∧∀ n,cx x=.exit n->B1 c (.exit n) a2 w2) ->
   St N [] w1 F1 G1 G1 ((l,IX) :: (Lc++Lv k i++(bk++Lt k i))) (BZ ps args T) a1 w1 ->
   WP (some l) P assign (Exit.then (fun a2 w2=>∃ w3,(Instr.beginRound l).run P w2=.ok () w3∧body.wpIn (FW (some l)) 0 P (B1 body) a2 w3) (fun _ _ _=>False)) a1 w1)
  (hdone:∀ Dk i G1 a1 w1,(∀ b o,G b=some o->G1 b=some o)->inv xs.length i G1->St N ({ target:=.collected Dk,args:=#[] } :: D) w0 F G0 G1 ((Dk,.deferred (some [])) :: (Lc++Lv xs.length i++Lt xs.length i)) T a1 w1->Q .normal a1 w1)
  (hstop:∀ Dk x G1 a1 w1,(∀ b o,G b=some o->G1 b=some o)->Bl x G1->St N ({ target:=.collected Dk,args:=#[] } :: D) w0 F G0 G1 ((Dk,.deferred (some [])) :: (Lc++Lx x++Gg x)) T a1 w1->WP none P (cx x) Q a1 w1) :
  WP none P (.rangeFunc Av ps.toArray assign body) Q a w:=by
 refine amn (J:=fun k g L=>∃ i,L=Lc++Lv k i++Lt k i∧inv k i g) (Jx:=fun c g L=>∃ x,c=cx x∧L=Lc++Lx x++Gg x∧Bl x g) H hg en hit hGi hps hlen (fun k G G' L hm ⟨i,e,h⟩=>⟨i,e,hinv k i G G' hm h⟩) (fun c G G' L hm ⟨x,e1,e2,h⟩=>⟨x,e1,e2,XV x G G' hm h⟩) ⟨i0,M,h0⟩ ?_ ?_ ?_
 ·rintro l q bk k args G1 L1 w1 a1 hk hm ⟨i,rfl,hi⟩ H1
  have pm:∀ A B:OL,(bk++(A++B)).Perm (A++(bk++B)):=fun A B=>by
   rw [<- jv,<- jv]
   exact List.Perm.append_right B oO
  refine round l (q.at .ready none) (q.at .busy none) bk k args i G1 w1 _ (fun _=>roundPost P l _) a1 hk hm hi ?_ ?_ ?_ (H1.perm (List.Perm.cons _ (pm _ _)))
  ·intro T' G2 L2 a2 w2 c H2 h
   exact adv H2 h
  ·intro i' T' G2 a2 w2 c H2 h2
   exact LD none (H2.perm (List.Perm.cons _ (pm _ _).symm)) ⟨_,M,i',M,h2⟩
  ·intro x T' G2 a2 w2 c H2 h2
   have H3:=H2.perm (List.Perm.cons _ (pm _ _).symm)
   refine ⟨fun e=>?_,fun n e=>?_⟩
   ·exact LD (some .ret) H3 ⟨_,_,M,x,e.symm,M,h2⟩
   ·exact LD (some (.exit n)) H3 ⟨_,_,M,x,e.symm,M,h2⟩
 ·rintro Dk G1 L1 a1 w1 hm ⟨i,rfl,hi⟩ H1
  exact hdone Dk i G1 a1 w1 hm hi H1
 ·rintro Dk c G1 L1 a1 w1 hm ⟨x,rfl,rfl,hx⟩ H1
  exact hstop Dk x G1 a1 w1 hm hx H1
def Za (ds:List Nat):List Deferred:=ds.map fun b=>{ target:=.collected b,args:=#[] }
def IC (ds:List Nat):OL:=ds.map fun b=>(b,.deferred (some []))
theorem amm {r:Option Nat} {ι:Type} {c:Code} {Tc:List (Nat × ah)} {Lc:List (Nat × Obj)} (Dv:ι->List Deferred) (Tv:ι->List (Nat × ah)) (Lv:ι->List (Nat × Obj)) (Gv:ι->GH) (Pr:ι->Prop) (m:ι->Nat) (i0:ι)
  (H:St N (Dv i0) w0 F G0 (Gv i0) (Lc++Lv i0) (Tv i0++Tc) a w) (hP:Pr i0)
  (round:∀ i a w,Pr i->St N (Dv i) w0 F G0 (Gv i) (Lc++Lv i) (Tv i++Tc) a w ->
   WP r P c (Exit.then (fun a' w'=>∃ i',(St N (Dv i') w0 F G0 (Gv i') (Lc++Lv i') (Tv i'++Tc) a' w'∧Pr i')∧m i' < m i) Q) a w):WP r P (.loop c) Q a w :=
 adz (fun i a w=>St N (Dv i) w0 F G0 (Gv i) (Lc++Lv i) (Tv i++Tc) a w∧Pr i) m i0 ⟨H,hP⟩ fun i a w hI=>round i a w hI.2 hI.1
theorem awh {ι:Type} {Dv:ι->List Deferred} {Tc:List (Nat × ah)} {Lc:List (Nat × Obj)} {Tv:ι->List (Nat × ah)} {Lv:ι->List (Nat × Obj)} {Gv:ι->GH} {Pr:ι->Prop} {m:ι->Nat} {i:ι} (i':ι)
  (H:St N (Dv i') w0 F G0 (Gv i') (Lc++Lv i') (Tv i'++Tc) a w) (hP:Pr i') (hm:m i' < m i) :
  ∃ i',(St N (Dv i') w0 F G0 (Gv i') (Lc++Lv i') (Tv i'++Tc) a w∧Pr i')∧m i' < m i:=⟨i',⟨H,hP⟩,hm⟩
theorem YW {fn:Func} {R:Ending->World->Prop} {Lh Lt:OL}:∀ (ds:List Nat) {a:Act} {w:World},St N (Za ds) w0 F G0 G (Lh++(IC ds++Lt)) T a w ->
  (∀ a' w',St N [] w0 F G0 G (Lh++Lt) T a' w'->bodyPostM (FW none) 0 P fn R .ret a' w')->bodyPostM (FW none) 0 P fn R .ret a w∧bodyPostM (FW none) 0 P fn R .normal a w
 | [],a,w,H,k=>⟨k a w H,k a w H⟩
 | b :: ds,a,w,H,k=>by
  refine YV (b:=b) (D:=Za ds) H Lh.length (by rw [uO (eG _),Nat.sub_self];rfl) fun a' w' H'=>?_
  refine (YW ds (Lh:=Lh) (Lt:=Lt) (H'.cast ?_) k).1
  rw [List.eraseIdx_append_of_length_le (eG _),Nat.sub_self];rfl
end
end
def n1 (x:au):Nat:=if Pg x=0 then kg x else 0
theorem ak.len {G:GH} {sz:Nat} {rows:List (List Dat)} {A:Option Addr} {n c:Nat} (h:ak G (.sl sz rows) (.slice A n c)):n=rows.length:=h.cells.1
theorem ak.at_ {G:GH} {sz:Nat} {rows:List (List Dat)} {A:Option Addr} {n c:Nat} (h:ak G (.sl sz rows) (.slice A n c)):∀ k r,rows[k]?=some r->∃ b o cs,A=some ⟨b,o,none⟩∧cs.length=sz∧(∀ j u,cs[j]?=some u->aH G b (o+k*sz+j)=some u)∧bB G r cs:=by
 obtain ⟨A2,c2,e,_,_,hg⟩:=h.slice
 cases e;exact hg
theorem Tq {G:GH} {l:List aV} {A:Option Addr} {k:Nat} (hk:k < l.length) (hg:∀ k r,(l.map aV.dat)[k]?=some r->∃ b o cs,A=some ⟨b,o,none⟩∧cs.length=6∧(∀ j u,cs[j]?=some u->aH G b (o+k*6+j)=some u)∧bB G r cs) :
  ∃ b o pA pn pc dA dn dc yA yn yc cA cn cc,A=some ⟨b,o,none⟩∧(∀ j u,[.slice pA pn pc,vi l[k].head.marks.ins,vi l[k].head.marks.move,.slice dA dn dc,.slice yA yn yc,.slice cA cn cc][j]?=some u->aH G b (o+k*6+j)=some u) ∧
   jr G l[k].head (.slice pA pn pc) (.slice dA dn dc) (.slice yA yn yc)∧ak G (.sl 7 (l[k].cells.map aX.dat)) (.slice cA cn cc):=by
 obtain ⟨b,o,cs,h1,h2,h3,h4⟩:=hg k l[k].dat (by simp [hk]);obtain ⟨pA,pn,pc,dA,dn,dc,yA,yn,yc,cA,cn,cc,rfl,h5,h6⟩:=h4.row;exact ⟨b,o,pA,pn,pc,dA,dn,dc,yA,yn,yc,cA,cn,cc,h1,h3,h5,h6⟩
theorem Qy {G:GH} {l:List aX} {A:Option Addr} {k:Nat} (hk:k < l.length) (hg:∀ k r,(l.map aX.dat)[k]?=some r->∃ b o cs,A=some ⟨b,o,none⟩∧cs.length=7∧(∀ j u,cs[j]?=some u->aH G b (o+k*7+j)=some u)∧bB G r cs) :
  ∃ b o pA pn pc dA dn dc yA yn yc fA fn fc,A=some ⟨b,o,none⟩∧(∀ j u,[vi l[k].id,.slice pA pn pc,vi l[k].head.marks.ins,vi l[k].head.marks.move,.slice dA dn dc,.slice yA yn yc,.slice fA fn fc][j]?=some u->aH G b (o+k*7+j)=some u) ∧
   jr G l[k].head (.slice pA pn pc) (.slice dA dn dc) (.slice yA yn yc)∧ak G (.sl 11 (l[k].flow.map au.dat)) (.slice fA fn fc):=by
 obtain ⟨b,o,cs,h1,h2,h3,h4⟩:=hg k l[k].dat (by simp [hk]);obtain ⟨pA,pn,pc,dA,dn,dc,yA,yn,yc,fA,fn,fc,rfl,h5,h6⟩:=h4.cell;exact ⟨b,o,pA,pn,pc,dA,dn,dc,yA,yn,yc,fA,fn,fc,h1,h3,h5,h6⟩
structure kN where
 (f p d y r s1 s2 s3 s4:Option Addr × Nat × Nat)
 (ins move:Int)
abbrev aW (x:Option Addr × Nat × Nat):ah:=.slice x.1 x.2.1 x.2.2
abbrev kN.cells (D:kN):List ah:=[aW D.f,aW D.p,vi D.ins,vi D.move,aW D.d,aW D.y,aW D.r,aW D.s1,aW D.s2,aW D.s3,aW D.s4]
abbrev kN.val (D:kN):ah:=.agg D.cells.toArray
theorem ajW:Ty prog 129 3 16 [.bool false,.bool false,.int .i64 0] true:=⟨V,V⟩
theorem J9:dP prog 68 2 2:=⟨V⟩
theorem WQ:dP prog 129 2 2:=⟨V⟩
theorem OT:qQ prog 129 [(0,1),(1,1),(2,1)] [.bool false,.bool false,.int .i64 0]:=⟨V,V⟩
theorem afq:dP prog 129 1 1:=⟨V⟩
theorem Et:Ty prog 4 1 1 [.bool false] false:=⟨V,V⟩
theorem vX:dP prog 38 0 0:=⟨V⟩
structure qN where
 id:Int
 items:List au
 body:Bool
 note:Bool
 tables:Int
mutual
def Po (note:Bool) (t:Int):au->List qN
 | .mk k _ i _ _ f r=>if k=6 then ⟨i,f,false,true,t⟩ :: Da true t f else if k=7 then FT note t r else []
def Da (note:Bool) (t:Int):List au->List qN
 | []=>[]
 | x :: l=>Po note t x++Da note t l
def FT (note:Bool) (t:Int):List aV->List qN
 | []=>[]
 | r :: l=>Pp note t r++FT note t l
def Pp (note:Bool) (t:Int):aV->List qN
 | .mk _ cs=>FR note t cs
def FR (note:Bool) (t:Int):List aX->List qN
 | []=>[]
 | c :: l=>Pm note t c++FR note t l
def Pm (note:Bool) (t:Int):aX->List qN
 | .mk i _ f=>⟨i,f,false,note,t+1⟩ :: Da note (t+1) f
end
def Ki (l:List au):List qN:=⟨0,l,true,false,0⟩ :: Da false 0 l
theorem iB:Ty prog 38 11 232 [.slice none 0 0,.slice none 0 0,.int .i64 0,.int .i64 0,.slice none 0 0,.slice none 0 0,.slice none 0 0,.slice none 0 0,.slice none 0 0,.slice none 0 0,.slice none 0 0] true:=⟨V,V⟩
theorem ahy {α:Type} {p:α->Bool} {A:List α} {k:Nat} (hk:k < A.length) (h:(A.take k).findIdx? p=none) (hp:p A[k]=false):(A.take (k+1)).findIdx? p=none:=by
 rw [List.findIdx?_eq_none_iff] at h |-;rw [kG hk];intro x hx
 rcases jQ.1 hx with hx|hx
 ·exact h x hx
 rw [oC.1 hx];exact hp
theorem YE {α:Type} {p:α->Bool} {A:List α} {k:Nat} (hk:k < A.length) (h:(A.take k).findIdx? p=none) (hp:p A[k]=true):A.findIdx? p=some k:=by
 have e:A.findIdx? p=(A.take k++A.drop k).findIdx? p:=by rw [List.take_append_drop]
 rw [e,List.findIdx?_append,h,rR hk,List.findIdx?_cons,hp]
 simp;omega

theorem aoZ:aS 171:=aT func171 M
def uM (fv:ah) (G:GH) (d:List Dat) (b:Bool):Prop:=∀ (G1:GH) (w1:World) (cs:List ah),(∀ b o,G b=some o->G1 b=some o)->Hold G1 w1->bB G1 d cs ->
 sJ prog fv [.agg cs.toArray] w1 (bG w1 G1 fun u G'=>u=.bool b)
def oG (o:Option Nat):Int:=match o with|some i=>i|none=>-1
theorem rU {p:Prop} (h:p:=by
 exact ⟨O,M,fun _ _ h=>h⟩):p:=h
theorem xJ {p:Prop} (h:p:=by
 first
  | exact H.rt (by rw [YE hk2 hno h16];rfl)
  | exact H.rt (by rw [show l.take k=l from jF O] at hno;rw [hno];rfl)):p:=h
theorem U2 {p:Prop} (h:p:=by
 exact ⟨O,ahy hk2 hno h16,fun b o h=>nL b o (hgm b o h)⟩):p:=h
theorem JM {p:Prop} (h:p:=by
 intro h16
 try have p16:=dF h16
 refine kP H (Kc K6 (SC (Rd M (Rm M ?_))));clear H K6;intro a H;refine aG ?_;refine dY ((k+1,tX)) (by exact H.sub ⟨M,M,M,M,aB⟩) ?_
 (try dsimp only);exact U2):p:=h
theorem avA (G:GH) (w0:World) (hG:Hold G w0) (l:List aV) (p:aV->Bool) (v fv:ah) (hv:ak G (.sl 6 (l.map aV.dat)) v) (hf:∀ x∈l,uM fv G x.dat (p x)) :
  Calls prog 171 #[v,fv] w0 (bG w0 G fun u G'=>u=vi (oG (l.findIdx? p))):=by
 obtain ⟨A,c,rfl,hc1,hc2,hg⟩:=hv.slice;have hml:maxLen=9223372036854775807:=rfl;rw [bS] at *;refine eN [(0,_),(1,_)] func171 M ntmps171 M M hG ?_;intro a H;refine kP H (SR fun _ K1=>aj K1 M (SQ fun _ K2=>SR fun _ K3=>Rm M (Rl nO M (Rm M (Kz K3 (SB ?_))))));clear H K1 K3;intro a H;skip;refine eX (ι:=Nat × GH) (Tc:=[(0,_),(1,_),(7,_)]) (Lc:=[]) (fun gh=>[(8,vi gh.1)]) (fun gh=>[]) (fun gh=>gh.2) (fun gh=>gh.1<=l.length∧(l.take gh.1).findIdx? p=none∧(∀ b o,G b=some o->gh.2 b=some o)) (fun gh=>l.length - gh.1) ((0,G)) (by exact H.sub ⟨M,M,M,M,aB⟩) ?_ ?_
 ·exact rU
 clear H;rintro ⟨k,g⟩ a w hI H;dsimp only at hI H;obtain ⟨hk,hno,hgm⟩:=hI;dsimp only [lca,bM] at H;refine kP H (SR fun _ K4=>Rc M (Kz K4 (SQ fun _ K5=>Cd M ?_ ?_))) <;> clear H K4
 ·intro h9 a H
  try have p9:=dT h9
  have hk2:k < l.length:=by omega
  obtain ⟨b,o,cs,rfl,hcl,hrow,hrep⟩:=hg k l[k].dat (by simp [hk2]);obtain ⟨pA,pn,pc,dA,dn,dc,yA,yn,yc,fA,fn,fc,rfl,-⟩:=hrep.row;replace hrow:=fun j u hj=>aC hgm (hrow j u hj);refine kP H (Kc K5 (SQ fun _ K6=>SB (SR fun _ K7=>Rm M (aj K7 M (SR fun _ K8=>Rm M (Rm M (Rm M (Ri nO jK M M ?_))))))));clear H K5 K7;intro a H;refine aU jK (cs:=[_,_,_,_,_,_]) H wn M M (fun j v hj=>H.hp.aH (hrow j v hj)) M ?_;clear H;intro a H;refine jO H wn M M (hf _ (lq hk2) _ _ _ hgm H.ro (hrep.mono hgm)) M ?_;clear H;rintro v16 tX a w rfl nL H;refine K8 _ _ ?_;clear K8;refine jw H M ?_ ?_
  ·intro h16
   try have p16:=dT h16
   refine kP H (SR fun _ K9=>Rm M (aj K9 M ?_));clear H K9;intro a H;refine lr H results171 M ?_
   exact xJ
  exact JM
 intro h9 a H
 try have p9:=dF h9
 refine dQ ?_;refine K2 _ _ ?_;clear K2;refine kP H (SR fun _ aR=>aj aR M ?_);clear H aR;intro a H;refine lr H results171 M ?_
 exact xJ
def ni (p:Nat->Bool):Nat->Nat->Nat->Nat
 | 0,i,_=>i
 | f+1,i,j=>if i < j then (if p ((i+j) / 2) then ni p f i ((i+j) / 2) else ni p f ((i+j) / 2+1) j) else i
theorem Yw {p:Nat->Bool} {f i j:Nat} (hf:j - i<=f) (h:i < j):ni p f i j=if p ((i+j) / 2) then ni p (f - 1) i ((i+j) / 2) else ni p (f - 1) ((i+j) / 2+1) j:=by
 match f,hf with
 | 0,hf=>omega
 | f+1,_=>rw [ni,aD h];rfl
theorem Yt {p:Nat->Bool} {f i j:Nat} (h:¬ i < j):ni p f i j=i:=by
 match f with
 | 0=>rfl
 | f+1=>rw [ni,av h]
theorem R6 {p:Nat->Bool}:∀ (f i j:Nat),i<=j->ni p f i j<=j
 | 0,i,j,h=>h
 | f+1,i,j,h=>by
  rw [ni]
  split
  ·split
   ·exact Nat.le_trans (R6 f i _ O) O
   ·exact R6 f _ j O
  ·exact h
theorem Yx {z:Int} (h1:0<=z) (h2:z < 18446744073709551616):IntKind.u64.wrap z=z:=by
 simp only [IntKind.wrap,IntKind.bits,IntKind.signed,MH,ug,if_false]
 omega
theorem Yu (n:Nat):((n:Nat):Int).fdiv (2 ^ 1)=((n / 2:Nat):Int):=by
 rw [Int.fdiv_eq_ediv_of_nonneg _ Z];omega
def Cg (a b:Int):Int:=if a < b then -1 else if b < a then 1 else 0
theorem adU {a b:Int}:Cg a b < 0↔a < b:=by
 unfold Cg
 split
 ·simp [*]
 ·split <;> simp_all
theorem adT {a b:Int}:Cg a b=0↔a=b:=by
 unfold Cg
 split
 ·omega
 ·split <;> omega
def gQ (ks:List Int) (t:Int):Nat:=ni (fun h=>decide (¬ ks.getD h 0 < t)) ks.length 0 ks.length
def oU (ks:List Int) (t:Int):Bool:=decide (ks[gQ ks t]?=some t)
theorem GR (ks:List Int) (t:Int):gQ ks t<=ks.length:=R6 _ _ _ (lg _)
theorem Rq {ks:List Int} {t:Int} (h:oU ks t=true):gQ ks t < ks.length:=by
 have:=pQ h
 exact (ko.1 this).1
theorem agi {ks:List Int} {t:Int} {n:Nat} (e:gQ ks t=n) (h:n < ks.length):oU ks t=decide (Cg ks[n] t=0):=by
 unfold oU
 rw [e,eB h]
 simp [adT]
theorem agj {ks:List Int} {t:Int} {n:Nat} (e:gQ ks t=n) (h:¬ n < ks.length):oU ks t=false:=by
 unfold oU
 rw [e,List.getElem?_eq_none O]
 simp
theorem getD_map {α:Type} {f:α->Int} {l:List α} {n:Nat} (h:n < l.length):(l.map f).getD n 0=f l[n]:=by
 simp [List.getD,h]
theorem O7:prog.underlying 322=some (.slice 296):=by kernel_rfl
theorem wD:Ty prog 296 6 56 [.int .i64 0,.int .i64 0,.int .i64 0,.int .i64 0,.int .i64 0,.string ⟨#[]⟩] true:=⟨V,V⟩
theorem ajF:qQ prog 296 [(0,1),(1,1),(2,1),(3,1),(4,1),(5,1)] [.int .i64 0,.int .i64 0,.int .i64 0,.int .i64 0,.int .i64 0,.string ⟨#[]⟩]:=⟨V,V⟩
theorem Wv:aS 174:=aT func174 M
structure kQ where
 num:Int
 Kk:Int
 low:Int
 high:Int
 std:Int
 name:ByteArray
def kQ.dat (x:kQ):List Dat:=[li x.num,li x.Kk,li x.low,li x.high,li x.std,.lf (.string x.name)]
def kQ.cells (x:kQ):List ah:=[vi x.num,vi x.Kk,vi x.low,vi x.high,vi x.std,.string x.name]
def aO.cells (x:aO):List ah:=[vi x.key,vi x.value]
theorem avR (G:GH) (x:kQ):bB G x.dat x.cells:=by
 simp only [kQ.dat,kQ.cells,bB]
 exact ⟨_,_,M,by simp [ak,Value.oneCell'],_,_,M,by simp [ak,Value.oneCell'],_,_,M,by simp [ak,Value.oneCell'],_,_,M,by simp [ak,Value.oneCell'],_,_,M,by simp [ak,Value.oneCell'],_,_,M,by simp [ak,Value.oneCell'],M⟩
theorem avQ {G:GH} {x:kQ} {cs:List ah} (h:bB G x.dat cs):cs=x.cells:=by
 simp only [kQ.dat,bB,ak] at h
 obtain ⟨v1,_,rfl,⟨rfl,-⟩,v2,_,rfl,⟨rfl,-⟩,v3,_,rfl,⟨rfl,-⟩,v4,_,rfl,⟨rfl,-⟩,v5,_,rfl,⟨rfl,-⟩,v6,_,rfl,⟨rfl,-⟩,rfl⟩:=h
 rfl
theorem axI (G:GH) (x:aO):bB G x.dat x.cells:=by
 simp only [aO.dat,aO.cells,bB]
 exact ⟨_,_,M,by simp [ak,Value.oneCell'],_,_,M,by simp [ak,Value.oneCell'],M⟩
theorem SV {G:GH} {x:aO} {cs:List ah} (h:bB G x.dat cs):cs=x.cells:=by
 simp only [aO.dat,bB,ak] at h
 obtain ⟨v1,_,rfl,⟨rfl,-⟩,v2,_,rfl,⟨rfl,-⟩,rfl⟩:=h
 rfl
theorem ahJ (G:GH):∀ (B A:List kQ),dx G 6 (A.map kQ.dat) (A.map kQ.cells).flatten->dx G 6 ((A++B).map kQ.dat) ((A++B).map kQ.cells).flatten
 | [],A,h=>by rw [ig];exact h
 | x :: B,A,h=>by
  have h2:=h.snoc (avR G x) M;have h3:=ahJ G B (A++[x]) (by simpa using h2)
  simpa using h3
theorem avS (G:GH) (A:List kQ):dx G 6 (A.map kQ.dat) (A.map kQ.cells).flatten:=ahJ G A [] dx.nil
theorem Gq {p:Prop} (h:p:=by
 exact ⟨b,o,h1,h3⟩):p:=h
theorem YP {G:GH} {l:List kQ} {A:Option Addr} {n c k:Nat} (hv:ak G (.sl 6 (l.map kQ.dat)) (.slice A n c)) (hk:k < l.length):∃ b o,A=some ⟨b,o,none⟩∧(∀ j u,[vi l[k].num,vi l[k].Kk,vi l[k].low,vi l[k].high,vi l[k].std,.string l[k].name][j]?=some u->aH G b (o+k*6+j)=some u):=by
 obtain ⟨A',c',he,_,_,hg⟩:=hv.slice
 injection he with e1 e2 e3
 subst e1;obtain ⟨b,o,cs,h1,h2,h3,h4⟩:=hg k l[k].dat (by simp [hk]);obtain rfl:=avQ h4;exact Gq
theorem aiI (G:GH):∀ (B A:List aO),dx G 2 (A.map aO.dat) (A.map aO.cells).flatten->dx G 2 ((A++B).map aO.dat) ((A++B).map aO.cells).flatten
 | [],A,h=>by rw [ig];exact h
 | x :: B,A,h=>by
  have h2:=h.snoc (axI G x) M;have h3:=aiI G B (A++[x]) (by simpa using h2)
  simpa using h3
theorem SX (G:GH) (A:List aO):dx G 2 (A.map aO.dat) (A.map aO.cells).flatten:=aiI G A [] dx.nil
theorem IU {G:GH} {l:List aO} {A:Option Addr} {n c k:Nat} (hv:ak G (.sl 2 (l.map aO.dat)) (.slice A n c)) (hk:k < l.length):∃ b o,A=some ⟨b,o,none⟩∧(∀ j u,[vi l[k].key,vi l[k].value][j]?=some u->aH G b (o+k*2+j)=some u):=by
 obtain ⟨A',c',he,_,_,hg⟩:=hv.slice
 injection he with e1 e2 e3
 subst e1;obtain ⟨b,o,cs,h1,h2,h3,h4⟩:=hg k l[k].dat (by simp [hk]);obtain rfl:=SV h4;exact Gq
def Iy:List kQ:=[⟨1,1,0,1073741824,0,⟨#[99,104,97,114,97,99,116,101,114,45,115,116,121,108,101]⟩⟩,⟨2,1,0,1,0,⟨#[98,111,108,100]⟩⟩,⟨3,1,0,1,0,⟨#[105,116,97,108,105,99]⟩⟩,⟨4,1,0,3,0,⟨#[117,110,100,101,114,108,105,110,101]⟩⟩,⟨5,1,2,1638,22,⟨#[115,105,122,101]⟩⟩,⟨6,1,0,16777215,0,⟨#[99,111,108,111,114]⟩⟩,⟨7,1,0,63,0,⟨#[102,111,110,116]⟩⟩,⟨8,1,0,255,0,⟨#[108,97,110,103,117,97,103,101]⟩⟩,⟨9,1,-400,400,0,⟨#[114,97,105,115,101]⟩⟩,⟨10,1,0,1,0,⟨#[104,105,100,100,101,110]⟩⟩,⟨20,2,0,1073741824,0,⟨#[112,97,114,97,103,114,97,112,104,45,115,116,121,108,101]⟩⟩,⟨21,2,0,3,0,⟨#[97,108,105,103,110]⟩⟩,⟨22,2,-31680,31680,0,⟨#[108,101,102,116]⟩⟩,⟨23,2,-31680,31680,0,⟨#[114,105,103,104,116]⟩⟩,⟨24,2,-31680,31680,0,⟨#[102,105,114,115,116]⟩⟩,⟨25,2,0,31680,0,⟨#[98,101,102,111,114,101]⟩⟩,⟨26,2,0,31680,0,⟨#[97,102,116,101,114]⟩⟩,⟨27,2,0,31680,0,⟨#[108,101,97,100,105,110,103]⟩⟩,⟨28,2,0,1,0,⟨#[107,101,101,112,45,110,101,120,116]⟩⟩,⟨29,2,0,1,0,⟨#[107,101,101,112,45,108,105,110,101,115]⟩⟩,⟨30,2,0,1,1,⟨#[119,105,100,111,119]⟩⟩,⟨31,2,0,1,0,⟨#[112,97,103,101,45,98,101,102,111,114,101]⟩⟩,⟨32,2,0,9,0,⟨#[111,117,116,108,105,110,101]⟩⟩,⟨33,2,0,1073741824,0,⟨#[108,105,115,116]⟩⟩,⟨34,2,1,9,1,⟨#[108,101,118,101,108]⟩⟩,⟨35,2,0,32767,0,⟨#[114,101,115,116,97,114,116]⟩⟩,⟨36,2,1,31680,720,⟨#[116,97,98,45,115,116,111,112]⟩⟩,⟨37,2,0,1,0,⟨#[104,121,112,104,101,110,97,116,101]⟩⟩,⟨40,3,720,31680,12240,⟨#[112,97,103,101,45,119,105,100,116,104]⟩⟩,⟨41,3,720,31680,15840,⟨#[112,97,103,101,45,104,101,105,103,104,116]⟩⟩,⟨42,3,0,31680,1440,⟨#[116,111,112]⟩⟩,⟨43,3,0,31680,1440,⟨#[98,111,116,116,111,109]⟩⟩,⟨44,3,0,31680,1440,⟨#[105,110,110,101,114]⟩⟩,⟨45,3,0,31680,1440,⟨#[111,117,116,101,114]⟩⟩,⟨46,3,0,32767,0,⟨#[102,105,114,115,116,45,112,97,103,101]⟩⟩,⟨47,3,1,6,1,⟨#[112,97,103,101,45,102,111,114,109,97,116]⟩⟩,⟨50,4,0,1,0,⟨#[104,101,97,100,101,114]⟩⟩,⟨51,4,0,1,0,⟨#[99,97,110,116,45,115,112,108,105,116]⟩⟩,⟨52,4,0,31680,0,⟨#[114,111,119,45,104,101,105,103,104,116]⟩⟩,⟨60,5,1,32,1,⟨#[99,111,108,117,109,110,45,115,112,97,110]⟩⟩,⟨61,5,0,2,0,⟨#[118,101,114,116,105,99,97,108,45,109,101,114,103,101]⟩⟩,⟨62,5,0,31680,0,⟨#[99,101,108,108,45,119,105,100,116,104]⟩⟩,⟨63,5,0,16777215,16777215,⟨#[115,104,97,100,101]⟩⟩,⟨70,6,0,31680,0,⟨#[116,97,98,108,101,45,119,105,100,116,104]⟩⟩,⟨71,6,0,2,0,⟨#[116,97,98,108,101,45,97,108,105,103,110]⟩⟩]
set_option maxRecDepth 20000 in
theorem avT (G:GH) (w0:World) (hG:Hold G w0):Calls prog 250 #[] w0 (bG w0 G fun u G'=>ak G' (.sl 6 (Iy.map kQ.dat)) u):=by
 refine eN [] func250 M ntmps250 M M hG ?_;intro a H;refine kP H (SR fun _ K1=>aj K1 M (SR fun _ K2=>?_));clear H K1;intro a H;(iterate 45 refine jU ajF [_,_,_,_,_,_] H wn M M M M ?_;clear H;intro a H);refine azb O7 wD (Iy.map kQ.cells) H wn M M M M M M M ?_;clear H;intro b46 a w aBV H;refine kH H (aj K2 M ?_);clear H K2;intro a H;refine lr H results250 M ?_;obtain ⟨Gz,hmz,hbz,H⟩:=H.fF;exact H.rt (ak.wz (n:=45) (cap:=45) hbz M (eG _) (show 45<=maxLen by decide) (jF (eG _)) (avS _ _))
theorem YH (G:GH) (w0:World) (hG:Hold G w0) (x:Int):Calls prog 174 #[vi x] w0 (bG w0 G fun u G'=>u=.bool false∧G=G'):=by
 refine eN [(0,_)] func174 M ntmps174 M M hG ?_;intro a H;exact kP H (SR fun _ K1=>aj K1 M (SR fun _ K2=>Rm M (Rm M (Rc M (aj K2 M (LR results174 M fun H=>H.rt ⟨by simp,M⟩))))))
theorem V8 {x y z:Int} (h:(x < y∧z=-1)∨(y < x∧z=1)∨(x=y∧z=0)):z=Cg x y:=by
 unfold Cg;split
 ·omega
 split <;> omega
theorem adZ (G:GH) (w0:World) (hG:Hold G w0) (x y:Int):Calls prog 253 #[vi x,vi y] w0 (bG w0 G fun u G'=>u=vi (Cg x y)):=by
 refine eN [(0,_),(1,_)] func253 M ntmps253 M M hG ?_;intro a H;refine kP H (SR fun _ K1=>aj K1 M (SR fun _ K2=>Rm M ?_));clear H K1;intro a H;refine s_call Wv H wn M (YH _ _ H.ro x) M ?_;clear H;rintro v8 G8 a w ⟨rfl,-⟩ rz H;refine kH H (aj K2 M (SR fun _ K3=>Rm M ?_));clear H K2;intro a H;refine s_call Wv H wn M (YH _ _ H.ro y) M ?_;clear H;rintro v10 EA a w ⟨rfl,-⟩ DW H;refine kH H (aj K3 M (SQ fun _ K4=>SR fun _ K5=>Rm M (Kz K5 (Cd M ?_ ?_)))) <;> clear H K3 K5
 ·intro h11 a H
  cases h11
 intro h11 a H
 try have sD:=dF h11
 refine kP H (Kc K4 (SQ fun _ K6=>SR fun _ K7=>Rm M (Kz K7 (Cd M ?_ ?_)))) <;> clear H K4 K7
 ·intro fT a H
  cases fT
 intro fT a H
 try have qL:=dF fT
 refine kP H (Kc K6 (SQ fun _ K8=>SR fun _ K9=>Rm M (Rm M (Rc M (Kz K9 (Cd M ?_ ?_)))))) <;> clear H K6 K9
 ·intro h16 a H
  try have p16:=dT h16
  exact kP H (SR fun _ aR=>aj aR M (LR results253 M fun H=>H.rt (cZ vi (V8 O))))
 intro h16 a H
 try have p16:=dF h16
 refine kP H (Kc K8 (SQ fun _ bq=>SR fun _ bP=>Rm M (Rm M (Rc M (Kz bP (Cd M ?_ ?_)))))) <;> clear H K8 bP
 ·intro h19 a H
  try have rF:=dT h19
  exact kP H (SR fun _ bU=>aj bU M (LR results253 M fun H=>H.rt (cZ vi (V8 O))))
 intro h19 a H
 try have rF:=dF h19
 exact kP H (Kc bq (SR fun _ dh=>aj dh M (LR results253 M fun H=>H.rt (cZ vi (V8 O)))))
def mQ (l:List aO):List ah:=(l.map aO.cells).flatten
theorem Wm:∀ l:List aO,(mQ l).length=l.length*2
 | []=>rfl
 | p :: l=>by
  have:=Wm l
  simp only [mQ,fD,List.flatten_cons,iW] at this |-
  rw [this,show p.cells.length=2 from rfl,lW];omega
theorem Na (l m:List aO):mQ (l++m)=mQ l++mQ m:=by simp [mQ]
theorem axJ {G:GH} {l:List aO} {xs:List ah} (h:dx G 2 (l.map aO.dat) xs):xs=mQ l:=by
 obtain ⟨css,rfl,h2,h3⟩:=h;rw [bS] at h2
 have e:css=l.map aO.cells:=by
  apply List.ext_getElem?
  intro j;rw [tZ]
  by_cases hj:j < l.length
  ·have h4:=(h3 j l[j].dat css[j] (by simp [hj]) (eB O)).1;rw [eB hj,eB O,SV h4];rfl
  rw [List.getElem?_eq_none O,List.getElem?_eq_none O];rfl
 rw [e];rfl
theorem ant {G:GH} {w0:World} (hO:gJ G [] w0) (l:List aO) (v:ah) (hv:ak G (.sl 2 (l.map aO.dat)) v) (hz:l.length<=4294967296) :
  Calls prog 168 #[v] w0 (fV w0 G [] fun u G' L'=>dw 187 2 u l.length (mQ l) L'):=by
 obtain ⟨A,c,rfl,_,_,-⟩:=hv.slice;obtain ⟨hn,hc1,hc2,hnil,hx⟩:=hv.cells;rw [bS] at *;refine jA (N:=8) (T:=[(0,_)]) func168 M ntmps168 M M hO ?_;intro a H;refine kP H (SR fun _ K1=>aj K1 M (SQ fun _ K2=>SR fun _ K3=>Rm M ?_));clear H K1;intro a H;refine CU gV H wn M M ?_;clear H;intro a H;refine K3 _ _ ?_;clear K3;refine jw H M ?_ ?_
 ·intro h4
  refine kP H (SR fun _ K4=>aj K4 M ?_);clear H K4;intro a H;refine lr H results168 M ?_
  have e:l=[]:=by simpa using hnil (by simpa using h4)
  subst e;exact H.hp.gL dw.nil
 intro h4
 try have p4:=dF h4
 refine iE ?_;refine K2 _ _ ?_;clear K2;refine bO (fun _ K5=>?_)
 have hA:¬ A=none:=by intro e;rw [e] at h4;cases h4
 refine nU ?_;refine Bv gV iA H wn M ?_;clear H;intro b5 a w hb5 H;refine kH H (Rm M ?_);clear H;intro a H
 by_cases hr0:l=[]
 ·subst hr0;refine Bu gV iA H wn M M (eG _) M ?_;clear H;intro a H;exact kH H (bD K5 M (LR results168 M fun H=>H.hp.gL dw.empty))
 obtain ⟨b,o,xs,rfl,hxl,hxc,hx1,fK⟩:=hx (by simpa using hr0);obtain rfl:=axJ fK;refine og (Li:=[]) (Lo:=[_]) (news:=mQ l) gV iA M M H wn M M dw.empty hxl (fun j u hj=>H.hp.aH (hxc j u hj)) hx1 O O M ?_;clear H;intro v7 Lo a w hrow H;rw [gy,mO] at hrow;exact kH H (bD K5 M (LR results168 M fun H=>H.hp.gL hrow))
theorem aiF {G:GH} {w0:World} (hO:gJ G [] w0) (l:List aO) (v:ah) (hv:ak G (.sl 2 (l.map aO.dat)) v) (hz:l.length<=4294967296) :
  Calls prog 159 #[v] w0 (fV w0 G [] fun u G' L'=>dw 187 2 u l.length (mQ l) L'):=by
 obtain ⟨A,c,rfl,_,_,-⟩:=hv.slice;rw [bS] at *;refine jA (N:=5) (T:=[(0,_)]) func159 M ntmps159 M M hO ?_;intro a H;refine kP H (SR fun _ K1=>aj K1 M (SR fun _ K2=>Rm M ?_));clear H K1;intro a H;refine gM QN (Li:=[]) (L:=[]) H wn M (ant (Hp.owns (Li:=[]) H.hp) l _ hv hz) M ?_;clear H;rintro v4 G4 L4 a w hrw NW H;dsimp only [List.nil_append] at H;obtain ⟨A4,c4,rfl,-,-⟩:=hrw.shape;exact kH H (aj K2 M (LR results159 M fun H=>H.hp.gL hrw))
theorem arL:dP prog 296 0 0:=⟨V⟩
theorem aeW:aS 253:=aT func253 M
theorem L9:prog.underlying 199=some (.int .u64):=by kernel_rfl
theorem xP:dP prog 187 0 0:=⟨V⟩
theorem apW:aS 252:=aT func252 M
theorem apZ:aS 261:=aT func261 M
theorem adC (G:GH) (w0:World) (hG:Hold G w0) (x:kQ) (t:Int):sJ prog (.func (.func 252) #[] #[]) [.agg x.cells.toArray,vi t] w0 (bG w0 G fun u G'=>u=vi (Cg x.num t)):=by
 refine jy (caps:=[]) apW ?_;refine eN [(0,_),(1,_)] func252 M ntmps252 M M hG ?_;intro a H;refine dz (fun _ K1=>?_);refine dR (cs:=[_,_,_,_,_,_]) H wn M M M ?_;clear H;intro b2 a w hb2 H;refine kH H (aj K1 M (SR fun _ K2=>bQ arL aF 0 M M (Rm M ?_)));clear H K1;intro a H;refine s_call aeW H wn M (adZ _ _ H.ro x.num t) M ?_;clear H;rintro v8 G8 a w rfl rz H;exact kH H (aj K2 M (LR results252 M fun H=>H.rt M))
theorem aaR {p:Prop} (h:p:=by
 exact ⟨lg _,eG _,Nat.sub_le _ _,hbs.symm,fun _ _ h=>h⟩):p:=h
theorem alx {p:Prop} (h:p:=by
 exact ⟨O,hj,O,heq,fun b o h=>H8 b o (hgm b o h)⟩):p:=h
theorem aly {p:Prop} (h:p:=by
 exact ⟨O,O,O,heq,fun b o h=>H8 b o (hgm b o h)⟩):p:=h
theorem aaS {p:Prop} (h:p:=by
 exact H.rt (by rw [agi heq.symm (by rw [bS];omega),<- heq];simp)):p:=h
theorem aaT {p:Prop} (h:p:=by
 exact H.rt (by rw [agj heq.symm (by rw [bS];omega),<- heq])):p:=h
theorem acA {p:Prop} (h:p:=by
 clear H;rintro v30 F4 a w rfl H8 H;refine kH H (Rc M (Kz K8 (Cd M ?_ ?_))) <;> clear H K8
 ·intro h31 a H
  try have p31:=dT h31
  rw [av (by simpa using adU.1 p31)] at heq;refine kP H (SC (Rm M (Rd M (Ra M ?_))));clear H;intro a H;refine aG ?_;refine dY ((m+1,j,f - 1,F4)) (by exact H.sub ⟨M,M,M,M,M,M,aB⟩) ?_
  (try dsimp only);exact alx
 intro h31 a H
 try have p31:=dF h31
 rw [aD (by simpa using fun h=>p31 (adU.2 h))] at heq;refine kP H (SC (Rm M (Ra M ?_)));clear H;intro a H;refine aG ?_;refine dY ((i,m,f - 1,F4)) (by exact H.sub ⟨M,M,M,M,M,M,aB⟩) ?_
 (try dsimp only);exact aly):p:=h
theorem amc (G:GH) (w0:World) (hG:Hold G w0) (l:List kQ) (t:Int) (v:ah) (hv:ak G (.sl 6 (l.map kQ.dat)) v) (hl:l.length<=4294967296) :
  Calls prog 251 #[v,vi t,.func (.func 252) #[] #[]] w0 (bG w0 G fun u G'=>u=.tuple #[vi (gQ (l.map kQ.num) t),.bool (oU (l.map kQ.num) t)]):=by
 obtain ⟨A,c,rfl,hc1,hc2,-⟩:=hv.slice;rw [bS] at *;obtain ⟨p,hp⟩:∃ p:Nat->Bool,p=fun h=>decide (¬ (l.map kQ.num).getD h 0 < t):=⟨_,M⟩
 have hbs:gQ (l.map kQ.num) t=ni p l.length 0 l.length:=by rw [hp,gQ,bS]
 refine eN [(0,_),(1,_),(2,_)] func251 M ntmps251 M M hG ?_;intro a H;refine kP H (SR fun _ K1=>Ra M (aj K1 M (SR fun _ K2=>Rm M (Rl O7 M (aj K2 M (SR fun _ K3=>Rm M (Ra M (aj K3 M (SQ fun _ K4=>SB ?_)))))))));clear H K1 K2 K3;intro a H;skip;refine eX (ι:=Nat × Nat × Nat × GH) (Tc:=[(0,_),(1,_),(2,_),(8,_)]) (Lc:=[]) (fun gh=>[(9,vi gh.1),(10,vi gh.2.1)]) (fun gh=>[]) (fun gh=>gh.2.2.2) (fun gh=>gh.1<=gh.2.1∧gh.2.1<=l.length∧gh.2.1 - gh.1<=gh.2.2.1∧ni p gh.2.2.1 gh.1 gh.2.1=gQ (l.map kQ.num) t∧(∀ b o,G b=some o->gh.2.2.2 b=some o)) (fun gh=>gh.2.1 - gh.1) ((0,l.length,l.length,G)) (by exact H.sub ⟨M,M,M,M,M,M,aB⟩) ?_ ?_
 ·exact aaR
 clear H;rintro ⟨i,j,f,g⟩ a w hI H;dsimp only at hI H;obtain ⟨hij,hj,hf1,heq,hgm⟩:=hI;have CJ:=hv.mono hgm;dsimp only [lca,bM] at H;refine kP H (SQ fun _ K5=>SR fun _ K6=>Rm M (Rm M (Rc M (Kz K6 (Cd M ?_ ?_))))) <;> clear H K6
 ·intro cu a H
  try have lI:=dT cu
  have hlt:i < j:=by omega
  rw [Yw hf1 hlt] at heq;obtain ⟨m,hm⟩:∃ m,m=(i+j) / 2:=⟨_,M⟩;rw [<- hm] at heq
  have hml:m < l.length:=by omega
  obtain ⟨b,o,rfl,hrow⟩:=YP CJ hml
  have hpm:p m=decide (¬ l[m].num < t):=by rw [hp];dsimp only;rw [getD_map hml]
  rw [hpm] at heq;refine kP H (Kc K5 (SB (SR fun _ K7=>Rm M (Rm M (Rd M ?_)))));clear H K5;intro a H;rw [show ((i:Int)+(j:Int))=((i+j:Nat):Int) by push_cast;rfl] at H;refine CQ ((i+j:Nat):Int) L9 mF H wn M (Yx O O) M ?_;clear H;intro a H;refine TN _ H wn M M M Z M ?_;clear H;intro a H;rw [Yu,<- hm] at H;refine CQ (m:Int) mF L9 H wn M (Ir O O) M ?_;clear H;intro a H;refine kH H (aj K7 M (SR fun _ K8=>Rm M (Rm M (Rm M (Ri O7 wD M M ?_)))));clear H K7;intro a H;refine aU wD (cs:=[_,_,_,_,_,_]) H wn M M (fun j v hj=>H.hp.aH (hrow j v hj)) M ?_;clear H;intro a H;refine kH H (Rm M ?_);clear H;intro a H;refine jO H wn M M (adC _ _ H.ro l[m] t) M ?_;exact acA
 intro cu a H
 try have lI:=dF cu
 refine dQ ?_;refine K4 _ _ ?_;clear K4;refine bO (fun _ K9=>?_);rw [Yt O] at heq;refine kP H (SC (Rm M (Rm M (Rm M (Rc M (Rm M (Sp 39 M ?_ ?_))))))) <;> clear H
 ·intro jN a H
  try have p39:=dT jN
  have hil:i < l.length:=by omega
  obtain ⟨b,o,rfl,hrow⟩:=YP CJ hil;refine kH H (YM jN M (YM jN M (YM jN M (YI O7 wD jN M M ?_))));clear H;intro a H;refine aU wD (cs:=[_,_,_,_,_,_]) H (wg H M M jN) M M (fun j v hj=>H.hp.aH (hrow j v hj)) M ?_;clear H;intro a H;refine kH H (YM jN M ?_);clear H;intro a H;refine jO H (wg H M M jN) M M (adC _ _ H.ro l[i] t) M ?_;clear H;rintro v46 Uw a w rfl NZ H;refine kH H (YC jN M (Pt jN M (Ra M (bD K9 M ?_))));clear H K9;intro a H;refine fE ?_;refine (kJ H results251 (.cons (fM H M) (.cons (fM H M) .nil)) ?_).1;exact aaS
 intro jN a H
 try have p39:=dF jN
 refine kH H (aP jN M (aP jN M (aL jN M (Pf jN M (Ra M (bD K9 M ?_))))));clear H K9;intro a H;refine fE ?_;refine (kJ H results251 (.cons (fM H M) (.cons (fM H M) .nil)) ?_).1;exact aaT
theorem adD (G:GH) (w0:World) (hG:Hold G w0) (x:aO) (t:Int):sJ prog (.func (.func 261) #[] #[]) [.agg x.cells.toArray,vi t] w0 (bG w0 G fun u G'=>u=vi (Cg x.key t)):=by
 refine jy (caps:=[]) apZ ?_;refine eN [(0,_),(1,_)] func261 M ntmps261 M M hG ?_;intro a H;refine dz (fun _ K1=>?_);refine dR (cs:=[_,_]) H wn M M M ?_;clear H;intro b2 a w hb2 H;refine kH H (aj K1 M (SR fun _ K2=>bQ xP aF 0 M M (Rm M ?_)));clear H K1;intro a H;refine s_call aeW H wn M (adZ _ _ H.ro x.key t) M ?_;clear H;rintro v8 G8 a w rfl rz H;exact kH H (aj K2 M (LR results261 M fun H=>H.rt M))
theorem amd (G:GH) (w0:World) (hG:Hold G w0) (l:List aO) (t:Int) (v:ah) (hv:ak G (.sl 2 (l.map aO.dat)) v) (hl:l.length<=4294967296) :
  Calls prog 260 #[v,vi t,.func (.func 261) #[] #[]] w0 (bG w0 G fun u G'=>u=.tuple #[vi (gQ (l.map aO.key) t),.bool (oU (l.map aO.key) t)]):=by
 obtain ⟨A,c,rfl,hc1,hc2,-⟩:=hv.slice;rw [bS] at *;obtain ⟨p,hp⟩:∃ p:Nat->Bool,p=fun h=>decide (¬ (l.map aO.key).getD h 0 < t):=⟨_,M⟩
 have hbs:gQ (l.map aO.key) t=ni p l.length 0 l.length:=by rw [hp,gQ,bS]
 refine eN [(0,_),(1,_),(2,_)] func260 M ntmps260 M M hG ?_;intro a H;refine kP H (SR fun _ K1=>Ra M (aj K1 M (SR fun _ K2=>Rm M (Rl gV M (aj K2 M (SR fun _ K3=>Rm M (Ra M (aj K3 M (SQ fun _ K4=>SB ?_)))))))));clear H K1 K2 K3;intro a H;skip;refine eX (ι:=Nat × Nat × Nat × GH) (Tc:=[(0,_),(1,_),(2,_),(8,_)]) (Lc:=[]) (fun gh=>[(9,vi gh.1),(10,vi gh.2.1)]) (fun gh=>[]) (fun gh=>gh.2.2.2) (fun gh=>gh.1<=gh.2.1∧gh.2.1<=l.length∧gh.2.1 - gh.1<=gh.2.2.1∧ni p gh.2.2.1 gh.1 gh.2.1=gQ (l.map aO.key) t∧(∀ b o,G b=some o->gh.2.2.2 b=some o)) (fun gh=>gh.2.1 - gh.1) ((0,l.length,l.length,G)) (by exact H.sub ⟨M,M,M,M,M,M,aB⟩) ?_ ?_
 ·exact aaR
 clear H;rintro ⟨i,j,f,g⟩ a w hI H;dsimp only at hI H;obtain ⟨hij,hj,hf1,heq,hgm⟩:=hI;have CJ:=hv.mono hgm;dsimp only [lca,bM] at H;refine kP H (SQ fun _ K5=>SR fun _ K6=>Rm M (Rm M (Rc M (Kz K6 (Cd M ?_ ?_))))) <;> clear H K6
 ·intro cu a H
  try have lI:=dT cu
  have hlt:i < j:=by omega
  rw [Yw hf1 hlt] at heq;obtain ⟨m,hm⟩:∃ m,m=(i+j) / 2:=⟨_,M⟩;rw [<- hm] at heq
  have hml:m < l.length:=by omega
  obtain ⟨b,o,rfl,hrow⟩:=IU CJ hml
  have hpm:p m=decide (¬ l[m].key < t):=by rw [hp];dsimp only;rw [getD_map hml]
  rw [hpm] at heq;refine kP H (Kc K5 (SB (SR fun _ K7=>Rm M (Rm M (Rd M ?_)))));clear H K5;intro a H;rw [show ((i:Int)+(j:Int))=((i+j:Nat):Int) by push_cast;rfl] at H;refine CQ ((i+j:Nat):Int) L9 mF H wn M (Yx O O) M ?_;clear H;intro a H;refine TN _ H wn M M M Z M ?_;clear H;intro a H;rw [Yu,<- hm] at H;refine CQ (m:Int) mF L9 H wn M (Ir O O) M ?_;clear H;intro a H;refine kH H (aj K7 M (SR fun _ K8=>Rm M (Rm M (Rm M (Ri gV iA M M ?_)))));clear H K7;intro a H;refine aU iA (cs:=[_,_]) H wn M M (fun j v hj=>H.hp.aH (hrow j v hj)) M ?_;clear H;intro a H;refine kH H (Rm M ?_);clear H;intro a H;refine jO H wn M M (adD _ _ H.ro l[m] t) M ?_;exact acA
 intro cu a H
 try have lI:=dF cu
 refine dQ ?_;refine K4 _ _ ?_;clear K4;refine bO (fun _ K9=>?_);rw [Yt O] at heq;refine kP H (SC (Rm M (Rm M (Rm M (Rc M (Rm M (Sp 39 M ?_ ?_))))))) <;> clear H
 ·intro jN a H
  try have p39:=dT jN
  have hil:i < l.length:=by omega
  obtain ⟨b,o,rfl,hrow⟩:=IU CJ hil;refine kH H (YM jN M (YM jN M (YM jN M (YI gV iA jN M M ?_))));clear H;intro a H;refine aU iA (cs:=[_,_]) H (wg H M M jN) M M (fun j v hj=>H.hp.aH (hrow j v hj)) M ?_;clear H;intro a H;refine kH H (YM jN M ?_);clear H;intro a H;refine jO H (wg H M M jN) M M (adD _ _ H.ro l[i] t) M ?_;clear H;rintro v46 Uw a w rfl NZ H;refine kH H (YC jN M (Pt jN M (Ra M (bD K9 M ?_))));clear H K9;intro a H;refine fE ?_;refine (kJ H results260 (.cons (fM H M) (.cons (fM H M) .nil)) ?_).1;exact aaS
 intro jN a H
 try have p39:=dF jN
 refine kH H (aP jN M (aP jN M (aL jN M (Pf jN M (Ra M (bD K9 M ?_))))));clear H K9;intro a H;refine fE ?_;refine (kJ H results260 (.cons (fM H M) (.cons (fM H M) .nil)) ?_).1;exact aaT
theorem apU:aS 250:=aT func250 M
theorem apV:aS 251:=aT func251 M
theorem jZ:prog.underlying 41=some (.slice 3):=by kernel_rfl
theorem apX:aS 254:=aT func254 M
theorem aeU:aS 226:=aT func226 M
theorem apL:aS 228:=aT func228 M
theorem arM:dP prog 296 1 1:=⟨V⟩
theorem apK:aS 227:=aT func227 M
theorem arN:dP prog 296 2 2:=⟨V⟩
theorem arO:dP prog 296 3 3:=⟨V⟩
def kz:kQ:=⟨0,0,0,0,0,⟨#[]⟩⟩
def Iw:List Int:=Iy.map kQ.num
def vZ (k:Int):kQ × Bool:=if oU Iw k=true then (Iy.getD (gQ Iw k) kz,true) else (kz,false)
theorem find_spec (G:GH) (w0:World) (hG:Hold G w0) (k:Int):Calls prog 226 #[vi k] w0 (bG w0 G fun u G'=>u=.tuple #[.agg (vZ k).1.cells.toArray,.bool (vZ k).2]):=by
 refine eN [(0,_)] func226 M ntmps226 M M hG ?_;intro a H;refine dz (fun _ K1=>?_);refine dJ wD H wn M ?_;clear H;intro b2 a w hb2 H;refine kH H (aj K1 M (SR fun _ K2=>?_));clear H K1;intro a H;refine s_call apU H wn M (avT _ _ H.ro) M ?_;clear H;rintro v7 G7 a w hv7 uG H;obtain ⟨A,c,rfl,hc1,hc2,-⟩:=hv7.slice;rw [bS] at *;refine kH H (aj K2 M (SR fun _ K3=>Rm M (Rm M ?_)));clear H K2;intro a H;refine s_call apV H wn M (amc _ _ H.ro Iy k _ hv7 Z) M ?_;clear H;rintro v11 zx a w rfl DY H;have hv7:=hv7.mono DY;have hkn:Iy.map kQ.num=Iw:=rfl;rw [hkn] at H;obtain ⟨n,hn⟩:∃ n,n=gQ Iw k:=⟨_,M⟩;obtain ⟨q,hq⟩:∃ q,q=oU Iw k:=⟨_,M⟩;rw [<- hn,<- hq] at H;refine kH H (Rm M ?_);clear H;intro a H;(iterate 2 refine lT H wn M M M ?_;clear H;intro a H);refine kH H (Ra M (aj K3 M (SQ fun _ K4=>SR fun _ K5=>Rm M (Rn M (Kz K5 (Cd M ?_ ?_)))))) <;> clear H K3 K5
 ·intro jM a H
  refine dz (fun _ K6=>?_);refine jU ajF [_,_,_,_,_,_] H wn M M M M ?_;clear H;intro a H;refine bC wD 0 (vs:=[_,_,_,_,_,_]) H wn M ?_;clear H;intro w H;refine kH H (aj K6 M ?_);clear H K6;intro a H;refine fE ?_;refine (kJ H results226 (.cons (ny wD (cs:=[_,_,_,_,_,_]) H M M (H.hp.cB 0 M M)) (.cons (fM H M) .nil)) ?_).1;exact H.rt (by rw [vZ,av (by rw [<- hq];simpa using jM)];rfl)
 intro jM a H
 try have tL:=dF jM
 have hlt:n < Iy.length:=by have:=Rq (ks:=Iw) (t:=k) (by rw [<- hq];simpa using jM);rw [<- hn] at this;simpa [Iw] using this
 obtain ⟨b,o,rfl,hrow⟩:=YP hv7 hlt;refine kP H (Kc K4 (SR fun _ K7=>Rm M (Rm M (Ri O7 wD M M ?_))));clear H K4;intro a H;refine aU wD (cs:=[_,_,_,_,_,_]) H wn M M (fun j v hj=>H.hp.aH (hrow j v hj)) M ?_;clear H;intro a H;refine bC wD 0 (vs:=[_,_,_,_,_,_]) H wn M ?_;clear H;intro w H;refine kH H (aj K7 M ?_);clear H K7;intro a H;refine fE ?_;refine (kJ H results226 (.cons (ny wD (cs:=[_,_,_,_,_,_]) H M M (H.hp.cB 0 M M)) (.cons (fM H M) .nil)) ?_).1;exact H.rt (by rw [vZ,aD (by rw [<- hq];simpa using jM),<- hn,List.getD_eq_getElem?_getD,eB hlt];rfl)
def Aw (e:Int):List Int:=if e=1∨e=4∨e=5∨e=6 then [1] else if e=2 then [1,2] else if e=3 then [3] else if e=7 then [6] else if e=9 then [4] else if e=10 then [5] else []
theorem Eb (G:GH) (A:List Int):dx G 1 (A.map fun k=>[li k]) (A.map vi):=by
 refine ⟨A.map fun k=>[vi k],?_,by simp,fun j r cs hr hc=>?_⟩
 ·induction A with
  | nil=>rfl
  | cons a A ih=>simpa using ih
 rw [tZ] at hr hc
 cases h:A[j]? with
 | none=>rw [h] at hr;cases hr
 | some x =>
  rw [h] at hr hc
  cases hr;cases hc
  exact ⟨by simp only [bB];exact ⟨_,_,M,by simp [ak,Value.oneCell'],M⟩,M⟩
theorem Cb {p:Prop} (h:p:=by
 first
  | exact H.rt (by rw [Aw,dK,dK,dK,dK,dK,dK];exact ak.qK M Z)
  | (obtain ⟨Gz,hmz,hbz,H⟩:=H.fF
     first
       | exact H.rt (by rw [Aw,nk];exact ak.wz (n:=1) (cap:=1) hbz M (eG _) (show 1<=maxLen by decide) rfl (Eb _ [1]))
       | exact H.rt (by rw [Aw,dK,nk];exact ak.wz (n:=2) (cap:=2) hbz M (eG _) (show 2<=maxLen by decide) rfl (Eb _ [1,2]))
       | exact H.rt (by rw [Aw,dK,dK,nk];exact ak.wz (n:=1) (cap:=1) hbz M (eG _) (show 1<=maxLen by decide) rfl (Eb _ [3]))
       | exact H.rt (by rw [Aw,dK,dK,dK,nk];exact ak.wz (n:=1) (cap:=1) hbz M (eG _) (show 1<=maxLen by decide) rfl (Eb _ [6]))
       | exact H.rt (by rw [Aw,dK,dK,dK,dK,nk];exact ak.wz (n:=1) (cap:=1) hbz M (eG _) (show 1<=maxLen by decide) rfl (Eb _ [4]))
       | exact H.rt (by rw [Aw,dK,dK,dK,dK,dK,nk];exact ak.wz (n:=1) (cap:=1) hbz M (eG _) (show 1<=maxLen by decide) rfl (Eb _ [5])))):p:=h
theorem asy (G:GH) (w0:World) (hG:Hold G w0) (e:Int):Calls prog 228 #[vi e] w0 (bG w0 G fun u G'=>ak G' (.sl 1 ((Aw e).map fun k=>[li k])) u):=by
  refine eN [(0,_)] func228 M ntmps228 M M hG ?_;intro a H;refine kP H (SR fun _ K1=>aj K1 M (SQ fun _ K2=>SR fun _ K3=>Rm M (Kz K3 (SB (SQ fun _ K4=>SR fun _ K5=>Rc M (aj K5 M (Cd M ?_ ?_))))))) <;> clear H K1 K3 K5
  · intro h4 a H
    try have p4:=dT h4
    refine kP H (Kc K4 (Ct M h4 (SR fun _ K6=>?_)));clear H K4;intro a H;refine iC jZ aF [_] [_] H wn M M M M M (by intro i q h;match i,h with|0,h=>exact h|n+1,h=>simp at h) M M ?_;clear H;intro b9 a w uz H;refine kH H (aj K6 M ?_);clear H K6;intro a H;refine lr H results228 M ?_
    exact Cb
  intro h4 a H
  try have p4:=dF h4
  refine kP H (SR fun _ K7=>Rc M (aj K7 M (Cd M ?_ ?_))) <;> clear H K7
  · intro h4 a H
    try have p4:=dT h4
    refine kP H (Kc K4 (Ct M h4 (SR fun _ K8=>?_)));clear H K4;intro a H;refine iC jZ aF [_] [_] H wn M M M M M (by intro i q h;match i,h with|0,h=>exact h|n+1,h=>simp at h) M M ?_;clear H;intro b9 a w uz H;refine kH H (aj K8 M ?_);clear H K8;intro a H;refine lr H results228 M ?_
    exact Cb
  intro h4 a H
  try have p4:=dF h4
  refine kP H (SR fun _ K9=>Rc M (aj K9 M (Cd M ?_ ?_))) <;> clear H K9
  · intro h4 a H
    try have p4:=dT h4
    refine kP H (Kc K4 (Ct M h4 (SR fun _ aR=>?_)));clear H K4;intro a H;refine iC jZ aF [_] [_] H wn M M M M M (by intro i q h;match i,h with|0,h=>exact h|n+1,h=>simp at h) M M ?_;clear H;intro b9 a w uz H;refine kH H (aj aR M ?_);clear H aR;intro a H;refine lr H results228 M ?_
    exact Cb
  intro h4 a H
  try have p4:=dF h4
  refine kP H (SC (Rc M (bD K4 M (Cd M ?_ ?_)))) <;> clear H K4
  · intro h4 a H
    try have p4:=dT h4
    refine dz (fun _ bq=>?_);refine iC jZ aF [_] [_] H wn M M M M M (by intro i q h;match i,h with|0,h=>exact h|n+1,h=>simp at h) M M ?_;clear H;intro b9 a w uz H;refine kH H (aj bq M ?_);clear H bq;intro a H;refine lr H results228 M ?_
    exact Cb
  intro h4 a H
  try have p4:=dF h4
  refine kP H (SR fun _ bP=>Rc M (aj bP M (Cd M ?_ ?_))) <;> clear H bP
  · intro h10 a H
    try have jc:=dT h10
    refine dz (fun _ bU=>?_);refine iC jZ aF [_,_] [_,_] H wn M M M M M (by intro i q h;match i,h with|0,h=>exact h|1,h=>exact h|n+2,h=>simp at h) M M ?_;clear H;intro b12 a w Hy H;refine kH H (aj bU M ?_);clear H bU;intro a H;refine lr H results228 M ?_
    exact Cb
  intro h10 a H
  try have jc:=dF h10
  refine kP H (SR fun _ dh=>Rc M (aj dh M (Cd M ?_ ?_))) <;> clear H dh
  · intro fT a H
    try have qL:=dT fT
    refine dz (fun _ dZ=>?_);refine iC jZ aF [_] [_] H wn M M M M M (by intro i q h;match i,h with|0,h=>exact h|n+1,h=>simp at h) M M ?_;clear H;intro b15 a w XC H;refine kH H (aj dZ M ?_);clear H dZ;intro a H;refine lr H results228 M ?_
    exact Cb
  intro fT a H
  try have qL:=dF fT
  refine kP H (SR fun _ eu=>Rc M (aj eu M (Cd M ?_ ?_))) <;> clear H eu
  · intro h16 a H
    try have p16:=dT h16
    refine dz (fun _ dS=>?_);refine iC jZ aF [_] [_] H wn M M M M M (by intro i q h;match i,h with|0,h=>exact h|n+1,h=>simp at h) M M ?_;clear H;intro b18 a w Rt H;refine kH H (aj dS M ?_);clear H dS;intro a H;refine lr H results228 M ?_
    exact Cb
  intro h16 a H
  try have p16:=dF h16
  refine kP H (SR fun _ eY=>Rc M (aj eY M (Cd M ?_ ?_))) <;> clear H eY
  · intro h19 a H
    try have rF:=dT h19
    refine dz (fun _ gU=>?_);refine iC jZ aF [_] [_] H wn M M M M M (by intro i q h;match i,h with|0,h=>exact h|n+1,h=>simp at h) M M ?_;clear H;intro b21 a w aBO H;refine kH H (aj gU M ?_);clear H gU;intro a H;refine lr H results228 M ?_
    exact Cb
  intro h19 a H
  try have rF:=dF h19
  refine kP H (SR fun _ fJ=>Rc M (aj fJ M (Cd M ?_ ?_))) <;> clear H fJ
  · intro h22 a H
    try have oH:=dT h22
    refine dz (fun _ iD=>?_);refine iC jZ aF [_] [_] H wn M M M M M (by intro i q h;match i,h with|0,h=>exact h|n+1,h=>simp at h) M M ?_;clear H;intro b24 a w aBR H;refine kH H (aj iD M ?_);clear H iD;intro a H;refine lr H results228 M ?_
    exact Cb
  intro h22 a H
  try have oH:=dF h22
  refine kP H (Kc K2 (SR fun _ jL=>aj jL M ?_));clear H K2 jL;intro a H;refine lr H results228 M ?_
  exact Cb
theorem avH {G:GH} {l:List Int} {A:Option Addr} {n c k:Nat} (hv:ak G (.sl 1 (l.map fun k=>[li k])) (.slice A n c)) (hk:k < l.length):∃ b o,A=some ⟨b,o,none⟩∧aH G b (o+k*1)=some (vi l[k]):=by
 obtain ⟨A',c',he,_,_,hg⟩:=hv.slice
 injection he with e1 e2 e3
 subst e1;obtain ⟨b,o,cs,h1,h2,h3,h4⟩:=hg k [li l[k]] (by simp [hk])
 simp only [bB,ak] at h4
 obtain ⟨v1,_,rfl,⟨rfl,-⟩,rfl⟩:=h4;exact ⟨b,o,h1,h3 0 _ M⟩
theorem JC {p:Prop} (h:p:=by
 exact ⟨lg _,M⟩):p:=h
theorem avC (G:GH) (w0:World) (hG:Hold G w0) (l:List Int) (t:Int) (v:ah) (hv:ak G (.sl 1 (l.map fun k=>[li k])) v) :
  Calls prog 254 #[v,vi t] w0 (bG w0 G fun u G'=>u=vi (oG (l.findIdx? fun x=>decide (t=x)))):=by
 obtain ⟨A,c,rfl,hc1,hc2,-⟩:=hv.slice;have hml:maxLen=9223372036854775807:=rfl;rw [bS] at *;refine eN [(0,_),(1,_)] func254 M ntmps254 M M hG ?_;intro a H;refine kP H (SR fun _ K1=>aj K1 M (SQ fun _ K2=>SR fun _ K3=>Rm M (Rl jZ M (Rm M (Kz K3 (SB ?_))))));clear H K1 K3;intro a H;skip;refine eX (ι:=Nat) (Tc:=[(0,_),(1,_),(7,_)]) (Lc:=[]) (fun gh=>[(8,vi gh)]) (fun gh=>[]) (fun gh=>G) (fun gh=>gh<=l.length∧(l.take gh).findIdx? (fun x=>decide (t=x))=none) (fun gh=>l.length - gh) (0) (by exact H.sub ⟨M,M,M,M,aB⟩) ?_ ?_
 ·exact JC
 clear H;intro k a w hI H;obtain ⟨hk,hno⟩:=hI;dsimp only [lca,bM] at H;refine kP H (SR fun _ K4=>Rc M (Kz K4 (SQ fun _ K5=>Cd M ?_ ?_))) <;> clear H K4
 ·intro h9 a H
  try have p9:=dT h9
  have hk2:k < l.length:=by omega
  obtain ⟨b,o,rfl,hrow⟩:=avH hv hk2;refine kP H (Kc K5 (SQ fun _ K6=>SB (SR fun _ K7=>Rm M (aj K7 M (SR fun _ K8=>Rm M (Rm M (Rm M (Ri jZ aF M M (Rg aF M (by assumption) ?_)))))))));clear H K5 K7;intro a H;refine kH H (Rc M (Kz K8 (Cd M ?_ ?_))) <;> clear H K8
  ·intro h16 a H
   try have p16:=dT h16
   exact kP H (SR fun _ K9=>Rm M (aj K9 M (LR results254 M fun H=>H.rt (by rw [YE hk2 hno (by simpa using p16)];rfl))))
  intro h16 a H
  try have p16:=dF h16
  refine kP H (Kc K6 (SC (Rd M (Rm M ?_))));clear H K6;intro a H;refine aG ?_;refine dY ((k+1)) (by exact H.sub ⟨M,M,M,M,aB⟩) ?_
  exact ⟨O,ahy hk2 hno (by simpa using p16)⟩
 intro h9 a H
 try have p9:=dF h9
 refine dQ ?_;refine K2 _ _ ?_;clear K2;exact kP H (SR fun _ aR=>aj aR M (LR results254 M fun H=>H.rt (by rw [show l.take k=l from jF O] at hno;rw [hno];rfl)))
theorem anH (G:GH) (w0:World) (hG:Hold G w0) (l:List Int) (t:Int) (v:ah) (hv:ak G (.sl 1 (l.map fun k=>[li k])) v) :
  Calls prog 227 #[v,vi t] w0 (bG w0 G fun u G'=>u=.bool (decide (t∈l))):=by
 obtain ⟨A,c,rfl,hc1,hc2,-⟩:=hv.slice;rw [bS] at *;refine eN [(0,_),(1,_)] func227 M ntmps227 M M hG ?_;intro a H;refine kP H (SR fun _ K1=>aj K1 M (SR fun _ K2=>Rm M (Rm M ?_)));clear H K1;intro a H;refine s_call apX H wn M (avC _ _ H.ro l t _ hv) M ?_;clear H;rintro v7 G7 a w rfl uG H;refine kH H (Rc M (aj K2 M ?_));clear H K2;intro a H;refine lr H results227 M ?_
 exact H.rt (by
  congr 1
  cases h:l.findIdx? (fun x=>decide (t=x)) with
  | none =>
   rw [List.findIdx?_eq_none_iff] at h;have:t∉l:=fun hm=>absurd (h t hm) (by simp)
   simp [oG,this]
  | some i =>
   obtain ⟨hi,he,-⟩:=List.findIdx?_eq_some_iff_getElem.1 h
   have:t∈l:=by rw [pQ he];exact lq _
   simp [oG,this])
def wO (e k:Int):Bool:=(vZ k).2 && decide ((vZ k).1.Kk∈Aw e)
theorem alA {p:Prop} (h:p:=by
 exact kH H (Rm M fun _ H=>fin H iJ M)):p:=h
theorem xK {p:Prop} (h:p:=by
 exact H.rt M):p:=h
theorem aaU {p:Prop} (h:p:=by
 exact fin H iJ (by show _=_;simp)):p:=h
theorem MZ {p:Prop} (h:p:=by
 intro bH a w G1 hG HT H fin;exact alA):p:=h
theorem afD (G:GH) (w0:World) (hG:Hold G w0) (e k:Int):Calls prog 194 #[vi e,vi k] w0 (bG w0 G fun u G'=>u=.bool (wO e k)):=by
 refine eN [(0,_),(1,_)] func194 M ntmps194 M M hG ?_;intro a H;refine kP H (SR fun _ K1=>aj K1 M (SR fun _ K2=>Rm M ?_));clear H K1;intro a H;refine s_call aeU H wn M (find_spec _ _ H.ro k) M ?_;clear H;rintro v9 G9 a w rfl Bc H;dsimp only [kQ.cells] at H;refine kH H (Rm M ?_);clear H;intro a H;(iterate 2 refine lT H wn M M M ?_;clear H;intro a H);refine dJ wD H wn M ?_;clear H;intro b5 a w hb5 H;refine bC wD 0 (vs:=[_,_,_,_,_,_]) H wn M ?_;clear H;intro w H;refine kH H (aj K2 M (SQ fun _ K3=>?_));clear H K2;intro a H
 by_cases c0:(vZ k).2=true
 ·skip
  have tK:Di (fun (bX:Nat) (v:ah) (G:GH)=>match bX with|0=>v=.bool (vZ k).2|1=>v=.bool (decide ((vZ k).2=true))|2=>v=vi e|3=>(vZ k).2=true->ak G (.sl 1 ((Aw e).map fun k=>[li k])) v|4=>v=(aK b5 1)|5=>v=vi (vZ k).1.Kk|6=>v=.bool (decide ((vZ k).1.Kk∈Aw e))|7=>v=.bool (wO e k)|_=>True):=by intro bX v G G' hm h;(iterate 9 (rcases bX with _|bX;(first|exact h|exact fun hf=>(h hf).mono hm)));exact trivial
  refine Ce (hmx) [[],[0],[0,1],[0,1,2],[0,1],[0,1,4],ra 0 6,ra 0 7,ra 0 8] [8] V V _ tK H ?_ ?_
  ·clear H;refine ay ?_ ?_ ?_ ?_ (ay ?_ ?_ ?_ ?_ (bN (bT M) dB))
   ·refine gB [] M trivial V tK M M ?_;exact MZ
   ·refine gB [(0,12,_)] M ⟨fun _ _ h=>h,aB⟩ V tK M M ?_;intro bH a w G1 hG HT H fin;refine kH H (Rm M ?_);clear H;intro a H;exact fin H iJ (by simp)
   ·refine gB [(1,13,_)] M ⟨fun _ _ h=>h,aB⟩ V tK M M ?_;intro bH a w G1 hG HT H fin;exact kH H (YM (aI c0) M fun _ H=>fin H iJ M)
   ·refine gB [(2,14,_),(1,13,_)] M ⟨fun _ _ h=>h,fun _ _ h=>h,aB⟩ V tK M M ?_;intro bH a w G1 hG HT H fin;refine s_call apL H (wg H M M (aI c0)) M (asy _ _ H.ro e) M ?_;clear H;rintro v15 Dg a w Bf DR H;exact fin H DR (by first|exact fun _=>Bf|rfl)
   ·refine gB [(1,13,_)] M ⟨fun _ _ h=>h,aB⟩ V tK M M ?_;intro bH a w G1 hG HT H fin;exact kH H (YF arM (aI c0) M fun _ H=>fin H iJ M)
   ·refine gB [(4,16,_),(1,13,_)] M ⟨fun _ _ h=>h,fun _ _ h=>h,aB⟩ V tK M M ?_;intro bH a w G1 hG HT H fin;exact kH H (YO aF 0 (aI c0) M fun _ H=>fin H iJ M)
   ·intro bH a w G1 _ aM hc hG HT hv;have H:=HT;clear aM;obtain ⟨u15,Ym,Bf⟩:=hv 3 15 (hc 3 Z) M;(try dsimp only at Bf);have H:=H.gZ Ym;have H:=H.aN (hv 5 17 (hc 5 Z) M) M;have H:=H.aN (hv 1 13 (hc 1 Z) M) M;have Hb:=H.full;have H:=Hb;clear hc;refine s_call apK H (wg H M M (aI c0)) M (anH _ _ H.ro _ _ _ (Bf c0)) M ?_;clear H;rintro v18 G18 a w rfl Xu H;refine aG ⟨M,?_⟩;exact wL V tK M M HT Hb hG hv Xu (rfl) H
   refine gB [(1,13,_),(6,18,_)] M ⟨fun _ _ h=>h,fun _ _ h=>h,aB⟩ V tK M M ?_;intro bH a w G1 hG HT H fin;refine kH H (Pt (aI c0) M ?_);clear H;intro a H;exact fin H iJ (by unfold wO;simp_all)
  clear H;intro a w G DT H hv;have H:=H.aN (hv 7 19 M M) M;clear hv;refine kH H (Ra M ?_);clear H;intro a H;refine aG ⟨M,?_⟩;refine K3 _ _ ?_;clear K3;refine lr H results194 M ?_;exact xK
 skip;refine dI hmx [[],[0],[0,1],[0,1,2],[0,1],[0,1,4],ra 0 6,ra 0 7,ra 0 8] [8] V [_,.bool (decide ((vZ k).2=true)),undef,undef,undef,undef,undef,.bool (wO e k)] H (ay (Z0 M (Rm M)) ?_ (aZ 1 (aY c0) M M) ?_ (ay (aZ 1 (aY c0) M M) (aZ 1 (aY c0) M M) (aZ 1 (aY c0) M M) ?_ (bN (bT M) dB))) ?_
 ·refine gN 0 12 M M fun _ a w G1 hG HT H fin=>?_;refine kH H (Rm M ?_);clear H;intro a H;exact aaU
 ·intro bH a w G1 _ aM hc hG HT hv;have H:=HT;clear aM;have H:=H.aN (hv 2 14 (hc 2 Z) M) M;have H:=H.aN (hv 1 13 (hc 1 Z) M) M;have Hb:=H.full;have H:=Hb;clear hc;refine kH H (Ks (aY c0) M ?_);clear H;intro a H;refine aG ⟨M,?_⟩;exact wL V (fun _ _ _ _ _ h=>h) M M HT Hb hG hv (fun _ _ h=>h) (by first|exact fun _=>Bf|rfl) H
 ·refine eT 1 13 6 18 M M fun _ a w G1 hG HT H fin=>?_;refine kH H (Pf (aY c0) M ?_);clear H;intro a H;exact fin H iJ (by show _=_;unfold wO;simp_all)
 clear H;intro a w G DT H hv;have H:=H.aN (hv 7 19 M M) M;clear hv;refine kH H (Ra M ?_);clear H;intro a H;refine aG ⟨M,?_⟩;refine K3 _ _ ?_;clear K3;refine lr H results194 M ?_;exact xK
def uQ (k v:Int):Int:=if (vZ k).2=false then 4 else if v < (vZ k).1.low∨(vZ k).1.high < v then 5 else 0
theorem adL (G:GH) (w0:World) (hG:Hold G w0) (k x:Int):Calls prog 195 #[vi k,vi x] w0 (bG w0 G fun u G'=>u=vi (uQ k x)):=by
 refine eN [(0,_),(1,_)] func195 M ntmps195 M M hG ?_;intro a H;refine kP H (SR fun _ K1=>aj K1 M (SR fun _ K2=>Rm M ?_));clear H K1;intro a H;refine s_call aeU H wn M (find_spec _ _ H.ro k) M ?_;clear H;rintro v9 G9 a w rfl Bc H;dsimp only [kQ.cells] at H;refine kH H (Rm M ?_);clear H;intro a H;(iterate 2 refine lT H wn M M M ?_;clear H;intro a H);refine dJ wD H wn M ?_;clear H;intro b5 a w hb5 H;refine bC wD 0 (vs:=[_,_,_,_,_,_]) H wn M ?_;clear H;intro w H;refine kH H (aj K2 M (SQ fun _ K3=>SB (SR fun _ K4=>Rm M (Rn M (aj K4 M (Cd M ?_ ?_)))))) <;> clear H K2 K4
 ·intro h12 a H
  try have rE:=dT h12
  exact kP H (SR fun _ K5=>aj K5 M (LR results195 M fun H=>H.rt (by unfold uQ;simp_all)))
 intro h12 a H
 try have rE:=dF h12
 refine kP H (SR fun _ K6=>Rm M (bQ arN aF 0 M M (Rc M (Rm M (Sp 20 M ?_ ?_))))) <;> clear H
 ·intro h20 a H
  try have IK:=dT h20
  exact kH H (aL h20 M (aL h20 M (Pt h20 M (aj K6 M (Ct M M (SR fun _ K7=>aj K7 M (LR results195 M fun H=>H.rt (by unfold uQ;simp_all))))))))
 intro h20 a H
 try have IK:=dF h20
 refine kH H (YM h20 M (YF arO h20 M (YO aF 0 h20 M (YC h20 M (Pf h20 M (aj K6 M (Cd M ?_ ?_))))))) <;> clear H K6
 ·intro jM a H
  try have tL:=dT jM
  exact kP H (SR fun _ K8=>aj K8 M (LR results195 M fun H=>H.rt (by unfold uQ;simp_all)))
 intro jM a H
 try have tL:=dF jM
 exact kP H (Kc K3 (SR fun _ K9=>aj K9 M (LR results195 M fun H=>H.rt (by unfold uQ;simp_all))))
theorem aeQ:aS 194:=aT func194 M
theorem QX:dP prog 187 1 1:=⟨V⟩
theorem aeR:aS 195:=aT func195 M
theorem apY:aS 260:=aT func260 M
theorem Wz:aS 240:=aT func240 M
def FD (q:Option Int) (k:Int):Bool:=match q with|some j=>decide (k < j)|none=>false
def zK (e:Int):Option Int->List aO->Int
 | _,[]=>0
 | q,p :: r=>if wO e p.key=false then 4 else if q=some p.key then 7 else if FD q p.key=true then 6 else if uQ p.key p.value=0 then zK e (some p.key) r else uQ p.key p.value
def Bt (l:List aO) (k:Nat):Option Int:=if k=0 then none else l[k - 1]?.map aO.key
def qU (e:Int) (l:List aO):Int:=if e < 1∨10 < e then 3 else zK e none l
theorem amX {e:Int} {l:List aO} {k:Nat} (h:k < l.length):zK e (Bt l k) (l.drop k)=if wO e l[k].key=false then 4 else if Bt l k=some l[k].key then 7 else if FD (Bt l k) l[k].key=true then 6 else if uQ l[k].key l[k].value=0 then zK e (Bt l (k+1)) (l.drop (k+1)) else uQ l[k].key l[k].value:=by
 rw [rR h,zK]
 have:Bt l (k+1)=some l[k].key:=by rw [Bt,dK,Nat.add_sub_cancel,eB h];rfl
 rw [this]
theorem SN {l:List aO} {k:Nat} (h:k=0):Bt l k=none:=aD h
theorem aaV {p:Prop} (h:p:=by
 first
  | exact H.rt (cZ vi (by rw [av (by simpa using p61)] at heq;rw [qU,dK];exact heq))
  | exact H.rt (cZ vi (by rw [aD (by simpa using h21)] at heq;rw [qU,dK];exact heq))
  | exact H.rt (cZ vi (by rw [qU,dK];exact heq))
  | exact H.rt (cZ vi (by rw [qU,dK,<- heq,show l.drop k=[] from uh O];rfl))
  | exact H.rt (cZ vi (by rw [qU,nk]))):p:=h
theorem EJ {p:Prop} (h:p:=by
 exact ⟨lg _,M,fun _ _ h=>h⟩):p:=h
theorem aaW {p:Prop} (h:p:=by
 exact fin H iJ (by show _=_;first|rfl|exact cZ vi O)):p:=h
theorem alB {p:Prop} (h:p:=by
 exact ⟨O,h.symm⟩):p:=h
theorem alC {p:Prop} (h:p:=by
 exact ⟨O,pQ h⟩):p:=h
theorem aaX {p:Prop} (h:p:=by
 exact ⟨heq,fun b o h=>wR b o (tC b o (pG b o h))⟩):p:=h
theorem zI {p:Prop} (h:p:=by
 refine zo _ H (wg H M M (aI c0)) M M M O O M ?_;clear H;intro a H;exact aaW):p:=h
theorem JK {p:Prop} (h:p:=by
 intro a H;refine lr H results129 M ?_
 exact aaV):p:=h
theorem Qt {p:Prop} (h:p:=by
 rw [(hpk h0).2] at h
 injection h with h
 exact alB):p:=h
theorem Qk {p:Prop} (h:p:=by
 rw [(hpk h0).2] at h;exact alC):p:=h
theorem abX {p:Prop} (h:p:=by
 refine eT 9 51 2 44 M M fun _ a w G1 hG HT H fin=>?_;refine rG aF H (wg H M M (aI c0)) M (H.hp.aH (aC hG (aC tC (aC pG (hpk O).1)))) M ?_;exact jG):p:=h
theorem aiH (G:GH) (w0:World) (hG:Hold G w0) (e:Int) (l:List aO) (v:ah) (hv:ak G (.sl 2 (l.map aO.dat)) v) :
  Calls prog 129 #[vi e,v] w0 (bG w0 G fun u G'=>u=vi (qU e l)):=by
 obtain ⟨A,c,rfl,hc1,hc2,-⟩:=hv.slice;have hml:maxLen=9223372036854775807:=rfl;rw [bS] at *;refine eN [(0,_),(1,_)] func129 M ntmps129 M M hG ?_;intro a H;refine kP H (SR fun _ K1=>aj K1 M (SQ fun _ K2=>SR fun _ K3=>Rm M (Rc M (Rm M (Sp 10 M ?_ ?_))))) <;> clear H K1
 ·intro h10 a H
  try have jc:=dT h10
  refine kH H (aL h10 M (Pt h10 M (Kz K3 (Ct M M (SR fun _ K4=>aj K4 M ?_)))));clear H K3 K4;exact JK
 intro h10 a H
 try have jc:=dF h10
 refine kH H (YM h10 M (YC h10 M (Pf h10 M (Kz K3 (Cd M ?_ ?_))))) <;> clear H K3
 ·intro fT a H
  try have qL:=dT fT
  refine kP H (SR fun _ K5=>aj K5 M ?_);clear H K5;exact JK
 intro fT a H
 try have qL:=dF fT
 refine kP H (Kc K2 (SQ fun _ K6=>SR fun _ K7=>Rm M (Rl gV M (Rm M (Kz K7 (SB ?_))))));clear H K2 K7;intro a H;skip;refine eX (ι:=Nat × GH) (Tc:=[(0,_),(1,_),(14,_),(15,_)]) (Lc:=[]) (fun gh=>[(16,vi gh.1)]) (fun gh=>[]) (fun gh=>gh.2) (fun gh=>gh.1<=l.length∧zK e (Bt l gh.1) (l.drop gh.1)=zK e none l∧(∀ b o,G b=some o->gh.2 b=some o)) (fun gh=>l.length - gh.1) ((0,G)) (by exact H.sub ⟨M,M,M,M,M,aB⟩) ?_ ?_
 ·exact EJ
 clear H;rintro ⟨k,g⟩ a w hI H;dsimp only at hI H;obtain ⟨hk,heq,hgm⟩:=hI;dsimp only [lca,bM] at H;refine kP H (SR fun _ K8=>Rc M (Kz K8 (SQ fun _ K9=>Cd M ?_ ?_))) <;> clear H K8
 ·intro cu a H
  try have lI:=dT cu
  have hk2:k < l.length:=by omega
  have CJ:=hv.mono hgm;obtain ⟨b,o,rfl,hrow⟩:=IU CJ hk2
  obtain ⟨pk,hpk⟩:∃ pk,0 < k->aH g b (o+(k - 1)*2+0)=some (vi pk)∧Bt l k=some pk:=by
   by_cases h0:0 < k
   ·obtain ⟨b',o',he,hr'⟩:=IU CJ (show k - 1 < l.length by omega)
    injection he with he
    injection he with e1 e2 e3
    subst e1;subst e2;exact ⟨_,fun _=>⟨hr' 0 _ M,by rw [Bt,dK,eB O];rfl⟩⟩
   exact ⟨0,fun h=>absurd h h0⟩
  rw [amX hk2] at heq;have aB7:=heq;refine kP H (Kc K9 (SQ fun _ aR=>SB (SR fun _ bq=>Rm M (Ri gV iA M M ?_))));clear H K9;intro a H;refine aU iA (cs:=[_,_]) H wn M M (fun j v hj=>H.hp.aH (hrow j v hj)) M ?_;clear H;intro a H;refine dJ iA H wn M ?_;clear H;intro b6 a w hb6 H;refine kH H (Ra M ?_);clear H;intro a H;refine bC iA 0 (vs:=[_,_]) H wn M ?_;clear H;intro w H;refine bq _ _ ?_;clear bq;refine uj (ι:=GH) (Tc:=[(0,_),(1,_),(6,_),(14,_),(15,_),(16,_)]) (Lc:=[(_,_)]) (fun gh=>[]) (fun gh=>[]) (fun gh=>gh) (fun gh=>(if uQ l[k].key l[k].value=0 then zK e (Bt l (k+1)) (l.drop (k+1)) else uQ l[k].key l[k].value)=zK e none l∧(∀ b o,g b=some o->gh b=some o)) (by exact H.sub ⟨M,M,M,M,M,M,aB⟩) ?_ ?_
  ·skip;refine kP H (SB (SR fun _ bP=>Rm M (bQ xP aF 0 M M ?_)));clear H;intro a H;refine s_call aeQ H wn M (afD _ _ H.ro e l[k].key) M ?_;clear H;rintro v25 FZ a w rfl pG H;replace hrow:=fun j u hj=>aC pG (hrow j u hj);refine kH H (Rn M (aj bP M (Cd M ?_ ?_))) <;> clear H bP
   ·intro h21 a H
    try have Ei:=dT h21
    refine kP H (SR fun _ bU=>aj bU M ?_);clear H bU;exact JK
   intro h21 a H
   try have Ei:=dF h21
   rw [av (by simpa using h21)] at heq;refine bO (fun _ dh=>?_)
   by_cases c0:0 < (k:Int)
   ·skip
    by_cases c1:l[k].key=pk
    ·skip;refine dI hmx [[],[0],[0,1],[0,1,2],ra 0 4,[0,1,2],[0,1,2],[0,1,2,6],[0,1,2,5,6,7],[0,1,2,5,6,7,8],[0,1,2,5,6,7,8,9],ra 0 11,ra 0 12,ra 0 13] [13] V [_,_,_,_,vi l[k].key,_,_,vi ((k - 1:Nat):Int),_,_,_,_,_] H (ay (Z0 M (Rm M)) (Z1 0 28 M (Rc M)) (Z1 1 29 M (Rm M)) (Z1 2 30 M (YF xP (aI c0) M)) (ay (Z2 3 31 2 30 M (YO aF 0 (aI c0) M)) (Z1 2 30 M (YM (aI c0) M)) (Z1 2 30 M (YM (aI c0) M)) ?_ (ay (Z3 5 33 7 35 2 30 M (YI gV iA (aI c0) M M)) (Z2 8 36 2 30 M (YF xP (aI c0) M)) (X2 9 37 2 30 M fun hG=>YR aF (aI c0) M (aC hG (aC pG (hpk O).1))) (Z3 4 32 10 38 2 30 M (YC (aI c0) M)) (bN (Z2 2 30 11 39 M (Pt (aI c0) M)) (bN (bT M) dB))))) ?_
     ·refine eT 6 34 2 30 M M fun _ a w G1 hG HT H fin=>?_;exact zI
     clear H;intro a w G tC H hv;have H:=H.aN (hv 12 40 M M) M;clear hv;refine kH H (Ra M ?_);clear H;intro a H;refine aG ⟨M,?_⟩;refine dh _ _ ?_;clear dh;refine Cc H M (aI c1) ?_;refine bO (fun _ dZ=>?_);rw [aD (by rw [(hpk O).2,c1])] at heq;refine kP H (SC (bD dZ M ?_));clear H dZ;exact JK
    skip;refine dI hmx [[],[0],[0,1],[0,1,2],ra 0 4,[0,1,2],[0,1,2],[0,1,2,6],[0,1,2,5,6,7],[0,1,2,5,6,7,8],[0,1,2,5,6,7,8,9],ra 0 11,ra 0 12,ra 0 13] [13] V [_,_,_,_,vi l[k].key,_,_,vi ((k - 1:Nat):Int),_,_,_,_,_] H (ay (Z0 M (Rm M)) (Z1 0 28 M (Rc M)) (Z1 1 29 M (Rm M)) (Z1 2 30 M (YF xP (aI c0) M)) (ay (Z2 3 31 2 30 M (YO aF 0 (aI c0) M)) (Z1 2 30 M (YM (aI c0) M)) (Z1 2 30 M (YM (aI c0) M)) ?_ (ay (Z3 5 33 7 35 2 30 M (YI gV iA (aI c0) M M)) (Z2 8 36 2 30 M (YF xP (aI c0) M)) (X2 9 37 2 30 M fun hG=>YR aF (aI c0) M (aC hG (aC pG (hpk O).1))) (Z3 4 32 10 38 2 30 M (YC (aI c0) M)) (bN (Z2 2 30 11 39 M (Pt (aI c0) M)) (bN (bT M) dB))))) ?_
    ·refine eT 6 34 2 30 M M fun _ a w G1 hG HT H fin=>?_;exact zI
    clear H;intro a w G tC H hv;have H:=H.aN (hv 12 40 M M) M;clear hv;refine kH H (Ra M ?_);clear H;intro a H;refine aG ⟨M,?_⟩;refine dh _ _ ?_;clear dh;refine sQ H M (aY c1) ?_;refine bO (fun _ eu=>?_)
    have q1:¬ (0 < (k:Int)∧l[k].key=pk):=by first|exact fun h=>c1 h.2|exact fun h=>c0 h.1
    rw [av (fun h=>q1 (by
     by_cases h0:0 < k
     ·exact Qt
     rw [SN O] at h
     cases h))] at heq
    by_cases c3:l[k].key < pk
    ·skip;refine dI hmx [[],[0],[0,1],[0,1,2],ra 0 4,[0,1,2],[0,1,2],[0,1,2,6],[0,1,2,5,6,7],[0,1,2,5,6,7,8],[0,1,2,5,6,7,8,9],ra 0 11,ra 0 12,ra 0 13] [13] V [_,_,_,_,vi l[k].key,_,_,vi ((k - 1:Nat):Int),_,_,vi pk,_,_] H (ay (Z0 M (Rm M)) (Z1 0 42 M (Rc M)) (Z1 1 43 M (Rm M)) (Z1 2 44 M (YF xP (aI c0) M)) (ay (Z2 3 45 2 44 M (YO aF 0 (aI c0) M)) (Z1 2 44 M (YM (aI c0) M)) (Z1 2 44 M (YM (aI c0) M)) ?_ (ay (Z3 5 47 7 49 2 44 M (YI gV iA (aI c0) M M)) (Z2 8 50 2 44 M (YF xP (aI c0) M)) ?_ (Z3 4 46 10 52 2 44 M (YC (aI c0) M)) (bN (Z2 2 44 11 53 M (Pt (aI c0) M)) (bN (bT M) dB))))) ?_
     ·refine eT 6 48 2 44 M M fun _ a w G1 hG HT H fin=>?_;exact zI
     ·exact abX
     clear H;intro a w G wR H hv;have H:=H.aN (hv 12 54 M M) M;clear hv;refine kH H (Ra M ?_);clear H;intro a H;refine aG ⟨M,?_⟩;refine eu _ _ ?_;clear eu;refine Cc H M (aI c3) ?_;refine bO (fun _ dS=>?_);rw [aD (by rw [(hpk O).2];exact aI c3)] at heq;refine kP H (SC (bD dS M ?_));clear H dS;exact JK
    skip;refine dI hmx [[],[0],[0,1],[0,1,2],ra 0 4,[0,1,2],[0,1,2],[0,1,2,6],[0,1,2,5,6,7],[0,1,2,5,6,7,8],[0,1,2,5,6,7,8,9],ra 0 11,ra 0 12,ra 0 13] [13] V [_,_,_,_,vi l[k].key,_,_,vi ((k - 1:Nat):Int),_,_,vi pk,_,_] H (ay (Z0 M (Rm M)) (Z1 0 42 M (Rc M)) (Z1 1 43 M (Rm M)) (Z1 2 44 M (YF xP (aI c0) M)) (ay (Z2 3 45 2 44 M (YO aF 0 (aI c0) M)) (Z1 2 44 M (YM (aI c0) M)) (Z1 2 44 M (YM (aI c0) M)) ?_ (ay (Z3 5 47 7 49 2 44 M (YI gV iA (aI c0) M M)) (Z2 8 50 2 44 M (YF xP (aI c0) M)) ?_ (Z3 4 46 10 52 2 44 M (YC (aI c0) M)) (bN (Z2 2 44 11 53 M (Pt (aI c0) M)) (bN (bT M) dB))))) ?_
    ·refine eT 6 48 2 44 M M fun _ a w G1 hG HT H fin=>?_;exact zI
    ·exact abX
    clear H;intro a w G wR H hv;have H:=H.aN (hv 12 54 M M) M;clear hv;refine kH H (Ra M ?_);clear H;intro a H;refine aG ⟨M,?_⟩;refine eu _ _ ?_;clear eu;refine sQ H M (aY c3) ?_;refine iE ?_;refine ⟨_,by exact H.sub ⟨M,M,M,M,M,M,aB⟩,?_⟩
    have q2:¬ (0 < (k:Int)∧l[k].key < pk):=by first|exact fun h=>c3 h.2|exact fun h=>c0 h.1
    rw [av (fun h=>q2 (by
     by_cases h0:0 < k
     ·exact Qk
     rw [SN O] at h
     cases h))] at heq
    exact aaX
   skip;refine dI hmx [[],[0],[0,1],[0,1,2],ra 0 4,[0,1,2],[0,1,2],[0,1,2,6],[0,1,2,5,6,7],[0,1,2,5,6,7,8],[0,1,2,5,6,7,8,9],ra 0 11,ra 0 12,ra 0 13] [13] V [_,_,_,undef,undef,undef,undef,undef,undef,undef,undef,undef,_] H (ay (Z0 M (Rm M)) (Z1 0 28 M (Rc M)) (Z1 1 29 M (Rm M)) (aZ 2 (aY c0) M M) (ay (aZ 2 (aY c0) M M) (aZ 2 (aY c0) M M) (aZ 2 (aY c0) M M) (aZ 2 (aY c0) M M) (ay (aZ 2 (aY c0) M M) (aZ 2 (aY c0) M M) (aZ 2 (aY c0) M M) (aZ 2 (aY c0) M M) (bN (Z2 2 30 11 39 M (Pf (aY c0) M)) (bN (bT M) dB))))) ?_
   clear H;intro a w G tC H hv;have H:=H.aN (hv 12 40 M M) M;clear hv;refine kH H (Ra M ?_);clear H;intro a H;refine aG ⟨M,?_⟩;refine dh _ _ ?_;clear dh;refine sQ H M M ?_;refine bO (fun _ eY=>?_)
   have q1:¬ (0 < (k:Int)∧l[k].key=pk):=by first|exact fun h=>c1 h.2|exact fun h=>c0 h.1
   rw [av (fun h=>q1 (by
    by_cases h0:0 < k
    ·exact Qt
    rw [SN O] at h
    cases h))] at heq
   refine dI hmx [[],[0],[0,1],[0,1,2],ra 0 4,[0,1,2],[0,1,2],[0,1,2,6],[0,1,2,5,6,7],[0,1,2,5,6,7,8],[0,1,2,5,6,7,8,9],ra 0 11,ra 0 12,ra 0 13] [13] V [_,_,_,undef,undef,undef,undef,undef,undef,undef,undef,undef,_] H (ay (Z0 M (Rm M)) (Z1 0 42 M (Rc M)) (Z1 1 43 M (Rm M)) (aZ 2 (aY c0) M M) (ay (aZ 2 (aY c0) M M) (aZ 2 (aY c0) M M) (aZ 2 (aY c0) M M) (aZ 2 (aY c0) M M) (ay (aZ 2 (aY c0) M M) (aZ 2 (aY c0) M M) (aZ 2 (aY c0) M M) (aZ 2 (aY c0) M M) (bN (Z2 2 44 11 53 M (Pf (aY c0) M)) (bN (bT M) dB))))) ?_
   clear H;intro a w G wR H hv;have H:=H.aN (hv 12 54 M M) M;clear hv;refine kH H (Ra M ?_);clear H;intro a H;refine aG ⟨M,?_⟩;refine eY _ _ ?_;clear eY;refine sQ H M M ?_;refine iE ?_;refine ⟨_,by exact H.sub ⟨M,M,M,M,M,M,aB⟩,?_⟩
   have q2:¬ (0 < (k:Int)∧l[k].key < pk):=by first|exact fun h=>c3 h.2|exact fun h=>c0 h.1
   rw [av (fun h=>q2 (by
    by_cases h0:0 < k
    ·exact Qk
    rw [SN O] at h
    cases h))] at heq
   exact aaX
  clear H;intro g2 a w hI H;obtain ⟨heq,lQ⟩:=hI;replace hrow:=fun j u hj=>aC lQ (hrow j u hj);dsimp only [lca,bM] at H;refine kP H (SR fun _ gU=>bQ xP aF 0 M M (bQ QX aF 0 M M ?_));clear H;intro a H;refine s_call aeR H wn M (adL _ _ H.ro l[k].key l[k].value) M ?_;clear H;rintro v59 G59 a w rfl aum H;refine kH H (aj gU M (SR fun _ fJ=>Rm M (Rc M (Kz fJ (Cd M ?_ ?_))))) <;> clear H gU fJ
  ·intro Hl a H
   try have p61:=dT Hl
   refine kP H (SR fun _ iD=>Rm M (aj iD M ?_));clear H iD;exact JK
  intro Hl a H
  try have p61:=dF Hl
  refine kP H (Kc aR (SC (Rd M (Rm M ?_))));clear H aR;intro a H;refine aG ?_;refine dY ((k+1,G59)) (by exact (H.fH (Pl:=[_]) (eD:=[]) [] Z M).sub ⟨M,M,M,M,M,aB⟩) ?_
  (try dsimp only);exact ⟨O,by rw [aD (by simpa using p61)] at heq;exact heq,fun b o h=>aum b o (lQ b o (hgm b o h))⟩
 intro cu a H
 try have lI:=dF cu
 refine dQ ?_;refine K6 _ _ ?_;clear K6;refine kP H (SR fun _ jL=>aj jL M ?_);clear H jL;intro a H;refine lr H results129 M ?_
 exact aaV
def kT (l:List aO) (k:Int):Int × Bool:=if oU (l.map aO.key) k=true then ((l.getD (gQ (l.map aO.key) k) ⟨0,0⟩).value,true) else (0,false)
theorem ZN (G:GH) (w0:World) (hG:Hold G w0) (l:List aO) (t:Int) (v:ah) (hv:ak G (.sl 2 (l.map aO.dat)) v) (hl:l.length<=4294967296) :
  Calls prog 240 #[v,vi t] w0 (bG w0 G fun u G'=>u=.tuple #[vi (gQ (l.map aO.key) t),.bool (oU (l.map aO.key) t)]):=by
 obtain ⟨A,c,rfl,hc1,hc2,-⟩:=hv.slice;rw [bS] at *;refine eN [(0,_),(1,_)] func240 M ntmps240 M M hG ?_;intro a H;refine kP H (SR fun _ K1=>Ra M (aj K1 M (SR fun _ K2=>Rm M (Rm M ?_))));clear H K1;intro a H;refine s_call apY H wn M (amd _ _ H.ro l t _ hv hl) M ?_;clear H;rintro v8 G8 a w rfl rz H;(iterate 2 refine lT H wn M M M ?_;clear H;intro a H);refine kH H (Ra M (aj K2 M ?_));clear H K2;intro a H;refine fE ?_;refine (kJ H results240 (.cons (fM H M) (.cons (fM H M) .nil)) ?_).1;exact xK
theorem asr (G:GH) (w0:World) (hG:Hold G w0) (l:List aO) (t:Int) (v:ah) (hv:ak G (.sl 2 (l.map aO.dat)) v) (hl:l.length<=4294967296) :
  Calls prog 213 #[v,vi t] w0 (bG w0 G fun u G'=>u=.tuple #[vi (kT l t).1,.bool (kT l t).2]):=by
 obtain ⟨A,c,rfl,hc1,hc2,-⟩:=hv.slice;rw [bS] at *;refine eN [(0,_),(1,_)] func213 M ntmps213 M M hG ?_;intro a H;refine kP H (SR fun _ K1=>Ra M (aj K1 M (SR fun _ K2=>Rm M (Rm M ?_))));clear H K1;intro a H;refine s_call Wz H wn M (ZN _ _ H.ro l t _ hv hl) M ?_;clear H;rintro v11 zx a w rfl DY H;obtain ⟨n,hn⟩:∃ n,n=gQ (l.map aO.key) t:=⟨_,M⟩;obtain ⟨q,hq⟩:∃ q,q=oU (l.map aO.key) t:=⟨_,M⟩;rw [<- hn,<- hq] at H;refine kH H (Rm M ?_);clear H;intro a H;(iterate 2 refine lT H wn M M M ?_;clear H;intro a H);refine kH H (Ra M (aj K2 M (SQ fun _ K3=>SR fun _ K4=>Rm M (Rn M (Kz K4 (Cd M ?_ ?_)))))) <;> clear H K2 K4
 ·intro jM a H
  refine kP H (SR fun _ K5=>Ra M (aj K5 M ?_));clear H K5;intro a H;refine fE ?_;refine (kJ H results213 (.cons (fM H M) (.cons (fM H M) .nil)) ?_).1;exact H.rt (by rw [kT,av (by rw [<- hq];simpa using jM)])
 intro jM a H
 try have tL:=dF jM
 have hlt:n < l.length:=by have:=Rq (ks:=l.map aO.key) (t:=t) (by rw [<- hq];simpa using jM);rw [<- hn] at this;simpa using this
 obtain ⟨b,o,rfl,hrow⟩:=IU (hv.mono DY) hlt;have r1:aH zx b (o+n*2+1)=some (vi l[n].value):=hrow 1 _ M;refine kP H (Kc K3 (SR fun _ K6=>Rm M (Rm M (Ri gV iA M M (Rf QX M (Rg aF M (by assumption) ?_))))));clear H K3;intro a H;refine kH H (Ra M (aj K6 M ?_));clear H K6;intro a H;refine fE ?_;refine (kJ H results213 (.cons (fM H M) (.cons (fM H M) .nil)) ?_).1;exact H.rt (by rw [kT,aD (by rw [<- hq];simpa using jM),<- hn,List.getD_eq_getElem?_getD,eB hlt];rfl)
theorem Wu:aS 159:=aT func159 M
theorem apM:aS 241:=aT func241 M
theorem aAu:qQ prog 187 [(0,1),(1,1)] [.int .i64 0,.int .i64 0]:=⟨V,V⟩
theorem apN:aS 242:=aT func242 M
theorem abB {p:Prop} (h:p:=by
 rw [seg,hA,List.take_append_of_le_length (by rw [<- hA];simp;omega),jF (by rw [<- hA];simp;omega)]):p:=h
theorem azI {cur x ys A:List ah} {p q:Nat} (hA:cur.take p=A) (hp:p<=cur.length) (hx:x.length=q) (hl:p+q+ys.length<=cur.length):(seg (seg cur p x) (p+q) ys).take (p+q+ys.length)=A++x++ys∧(seg (seg cur p x) (p+q) ys).length=cur.length:=by
 have h1:(seg cur p x).length=cur.length:=FP O;refine ⟨?_,by rw [FP (by rw [h1];omega),h1]⟩
 have h2:(seg cur p x).take (p+q)=A++x:=by
  exact abB
 rw [seg,h2,List.take_append_of_le_length (by rw [<- hA];simp;omega),jF (by rw [<- hA];simp;omega)]
theorem azJ {cur x ys A:List ah} {p q:Nat} (hA:cur.take p=A) (hp:p<=cur.length) (hx:x.length=q) (hl:p+q+ys.length<=cur.length):(seg (seg cur (p+q) ys) p x).take (p+q+ys.length)=A++x++ys∧(seg (seg cur (p+q) ys) p x).length=cur.length:=by
 have h1:(seg cur (p+q) ys).length=cur.length:=FP O;refine ⟨?_,by rw [FP (by rw [h1];omega),h1]⟩
 have h2:(seg cur (p+q) ys).take p=A:=by
  rw [seg,jv,List.take_append_of_le_length (by simp;omega),List.take_take,Nat.min_eq_left O,hA]
 have h3:(seg cur (p+q) ys).drop (p+q)=ys++cur.drop (p+q+ys.length):=by
  rw [seg,jv,List.drop_append_of_le_length (by simp;omega),uh (by simp;omega),mO]
 rw [seg,hx,h2,h3,<- jv,List.take_append_of_le_length (by rw [<- hA];simp;omega),jF (by rw [<- hA];simp;omega)]
theorem azH {cur ys A:List ah} {p:Nat} (hA:cur.take p=A) (hl:p+ys.length<=cur.length):(seg cur p ys).take (p+ys.length)=A++ys:=by
 exact abB
theorem aAe {b o lo n c sz o' n' c':Nat} (h:¬ c=lo) (ho:o+lo*sz=o') (hn:n - lo=n') (hc:c - lo=c'):Value.slice (if c=lo then some ⟨b,o,none⟩ else (some ⟨b,o,none⟩:Option Addr).map (·.add (lo*sz))) (n - lo) (c - lo)=.slice (some ⟨b,o',none⟩) n' c':=by
 subst ho hn hc;rw [av h,wH,add_lit]
theorem aaY {p:Prop} (h:p:=by
 exact fin H iJ (aAe O O O M)):p:=h
theorem abG {p:Prop} (h:p:=by
 refine CW gV iA (i+1) H wn M M O O M ?_;clear H;intro a H;exact aaY):p:=h
theorem abL {p:Prop} (h:p:=by
 refine CW gV iA i H wn M M M O M ?_;clear H;intro a H;exact aaY):p:=h
theorem abS {p:Prop} (h:p:=by
 rw [List.getElem?_drop,<- hct,uN] at hj
 split at hj
 ·exact hj
 cases hj):p:=h
set_option maxHeartbeats 4000000 in
theorem avG (G:GH) (w0:World) (Lo:OL) (hO:gJ G Lo w0) (v:ah) (n i:Nat) (xs:List ah) (hrw:dw 187 2 v n xs Lo) (hx1:xs.all Value.oneCell'=true) (hi:i<=n) (hn:n<=4294967296) (bv:Nat) (x0 x1:ah) (hb:G bv=some (.cells #[x0,x1] 187 (0,0))) (h0:x0.oneCell'=true) (h1:x1.oneCell'=true) :
  Calls prog 241 #[v,vi i,.slice (some ⟨bv,0,none⟩) 1 1] w0 (fV w0 G Lo fun u G' L'=>dw 187 2 u (n+1) (xs.take (i*2)++[x0,x1]++xs.drop (i*2)) L'):=by
 have hml:maxLen=9223372036854775807:=rfl;obtain ⟨A,c,rfl,hc1,hc2⟩:=hrw.shape;have hxl:=hrw.1
 have hx2:[x0,x1].all Value.oneCell'=true:=by simp [h0,h1]
 have hgx:∀ {w:World} {G':GH},Hold G' w->(∀ b o,G b=some o->G' b=some o)->∀ j u,[x0,x1][j]?=some u->w.cell? ⟨bv,0+j,none⟩=some u:=fun {w} {G'} hG hm j u hj=>by
  simp [World.cell?,hG _ _ (hm _ _ hb),<- hj]
 refine jA (N:=95) (T:=[(0,_),(1,_),(2,_)]) func241 M ntmps241 M M hO ?_;intro a H;refine kP H (SR fun _ K1=>aj K1 M (SR fun _ K2=>Rm M (Rm M ?_)));clear H K1;intro a H;refine CW gV iA i H wn M M M hi M ?_;clear H;intro a H;refine K2 _ _ ?_;clear K2;refine kP H (SR fun _ K3=>Rm M (Rl gV M (aj K3 M (SQ fun _ K4=>SR fun _ K5=>Rm M (Rc M (Kz K5 (Cd M ?_ ?_))))))) <;> clear H K3 K5
 ·intro h16 a H
  try have p16:=dT h16
  exact absurd p16 Z
 intro h16 a H
 try have p16:=dF h16
 refine kP H (Kc K4 (SR fun _ K6=>Rm M (Rl gV M (aj K6 M (SQ fun _ K7=>SR fun _ K8=>Rm M (Rm M (Rc M (Kz K8 (Cd M ?_ ?_))))))))) <;> clear H K4 K6 K8
 ·intro h22 a H
  try have oH:=dT h22
  refine kP H (SR fun _ K9=>Rm M (Rm M ?_));clear H;intro a H;refine og (Li:=[]) (Lo:=Lo) (news:=[x0,x1]) gV iA M M H wn M M hrw M (hgx H.ro fun _ _ h=>h) hx2 O O M ?_;clear H;intro v25 aBz a w auM H;dsimp only [List.nil_append] at H;refine kH H (aj K9 M ?_);clear H K9;intro a H;refine lr H results241 M ?_
  exact H.hp.gL (by
   have e:i=n:=by omega
   have e1:xs.take (i*2)=xs:=jF O;have e2:xs.drop (i*2)=[]:=uh O
   rw [e1,e2,ig];exact auM)
 intro h22 a H
 try have oH:=dF h22
 have hlt:i < n:=by omega
 obtain ⟨b,cap,cur,he,rfl,-,-,hcs,hct⟩:=hrw.2.resolve_left (fun h=>by omega)
 injection he with e1 e2 e3
 subst e1 e3;obtain ⟨cur,rfl⟩:∃ l:List ah,cur=l.toArray:=⟨cur.toList,by simp⟩
 simp only [List.size_toArray,List.toList_toArray] at hcs hct
 have Rz:cur.take (i*2)=xs.take (i*2):=by rw [<- hct,List.take_take,Nat.min_eq_left O]
 have hcd:∀ j u,(xs.drop (i*2))[j]?=some u->cur[i*2+j]?=some u:=fun j u hj=>by
  exact abS
 have atJ:∀ j u,(xs.take (i*2))[j]?=some u->cur[j]?=some u:=fun j u hj=>by
  rw [<- Rz,uN] at hj
  split at hj
  ·exact hj
  cases hj
 have hyl:(xs.drop (i*2)).length=(n - i)*2:=by rw [List.length_drop,hxl];omega
 have hy1:(xs.drop (i*2)).all Value.oneCell'=true:=jE.2 fun u hu=>jE.1 hx1 u (List.mem_of_mem_drop hu)
 have hbne:bv≠b:=fun e=>by have:=hO.sep (b,_) (List.mem_singleton_self _);rw [<- e,hb] at this;cases this
 refine kP H (Kc K7 (SQ fun _ aR=>SR fun _ bq=>Rm M (Rm M (Rd M (Rm M ?_)))));clear H K7;intro a H;refine azd gV H wn M M ?_;clear H;intro a H;refine kH H (Rc M (Kz bq (Cd M ?_ ?_))) <;> clear H bq
 ·intro h31 a H
  try have p31:=dT h31
  refine kP H (SR fun _ bP=>Rm M (Rm M ?_));clear H;intro a H;refine IY gV iA i H wn M M M O M ?_;clear H;intro a H;refine kH H (Rm M (Rm M (Rd M (Rm M (Rs M ?_)))));clear H;intro a H;refine ayZ (m:=n+1 - i) gV mF iA M M (xs.take (i*2)) H wn M M O (by rw [List.length_take,hxl];omega) (fun j u hj=>H.hp.yu 0 M (by rw [gy];simpa using atJ j u hj)) O O O O M ?_;clear H;intro b2 cap2 EN a w hq1 hq2 hq3 hq4 H;rw [show i+(n+1 - i)=n+1 by omega] at hq1 H;refine kH H (aj bP M (SR fun _ bU=>Rm M (Rm M ?_)));clear H bP;intro a H;refine CW gV iA i H wn M M M O M ?_;clear H;intro a H;rw [dK,wH,add_lit,gy] at H;refine kH H (Rm M ?_);clear H;intro a H;refine TJ gV iA 0 1 [x0,x1] H wn M M M O M (hgx H.ro fun _ _ h=>h) (by simp;omega) hx2 rfl ?_;clear H;intro a w H;dsimp only [List.set] at H;obtain ⟨auY,auZ⟩:=azI (x:=[x0,x1]) (ys:=xs.drop (i*2)) (q:=2) hq4 O M (by rw [hyl];omega);refine bU _ _ ?_;clear bU;refine bO (fun _ dh=>?_);refine dI hmx [[],[],[],[1,2],ra 0 4,[],[],[5,6],ra 0 8] [8] V [_,_,_,_,.slice (some ⟨b2,i*2+2,none⟩) (n - i) (cap2 - (i+1)),_,_,.slice (some ⟨b,i*2,none⟩) (n - i) (c - i)] H (ay (Z0 M (Rm M)) (Z0 M (Rm M)) (Z0 M (Rm M)) (Z2 1 47 2 48 M (Rd M)) (ay ?_ (Z0 M (Rm M)) (Z0 M (Rm M)) ?_ (bN (bT M) dB))) ?_
  ·refine eT 0 46 3 49 M M fun _ a w G1 hG HT H fin=>?_;exact abG
  ·refine eT 5 51 6 52 M M fun _ a w G1 hG HT H fin=>?_;exact abL
  clear H;intro a w G tu H hv;have H:=H.aN (hv 4 50 M M) M;have H:=H.aN (hv 7 53 M M) M;clear hv;refine TJ gV iA 0 (n - i) (xs.drop (i*2)) H wn M M M O hyl (fun j u hj=>H.hp.yu 1 M (by simpa using hcd j u hj)) (by rw [FP (by simp;omega),hyl];omega) hy1 rfl ?_;clear H;intro a w H;dsimp only [List.set] at H;refine aG ⟨M,?_⟩;refine dh _ _ ?_;clear dh;exact kP H (SR fun _ dZ=>Rm M (aj dZ M (LR results241 M fun H=>H.hp.mW (L':=[_]) (List.Sublist.cons_cons _ (List.nil_sublist _)) ⟨by simp [List.length_take,hxl,hyl];omega,.inr ⟨b2,cap2,_,rfl,rfl,hq1,hq2,by rw [List.size_toArray,auZ,hq3],by rw [List.toList_toArray];rw [<- auY];congr 1;rw [hyl];omega⟩⟩)))
 intro h31 a H
 try have p31:=dF h31
 refine kP H (Kc aR (SR fun _ eu=>Rm M (Rm M (Rm M (Rd M ?_)))));clear H aR;intro a H;refine IY gV iA (n+1) H wn M M O O M ?_;clear H;intro a H;refine kH H (aj eu M (SQ fun _ dS=>SR fun _ eY=>Rm M (Rm M (Rm M (Rm M (Rd M ?_))))));clear H eu;intro a H;refine CW gV iA (i+1) H wn M M O O M ?_;clear H;intro a H;rw [dK,wH,add_lit,gy] at H;refine azn (t:=23) (tr:=4) func262 V V V V gV iA H wn M M (H.ro _ _ hb) (H.hp.own (b,_) (List.mem_singleton_self _)) hbne (by rw [List.size_toArray,hcs];omega) rfl ?_;clear H;intro a H;refine kH H (Rn M (Kz eY (Cd M ?_ ?_))) <;> clear H eY
 ·intro h68 a H
  try have p68:=dT h68
  refine bO (fun _ gU=>?_);refine dI hmx [[],[],[],[1,2],ra 0 4,[],[],[5,6],ra 0 8] [8] V [_,_,_,_,.slice (some ⟨b,i*2+2,none⟩) (n - i) (c - (i+1)),_,_,.slice (some ⟨b,i*2,none⟩) (n+1 - i) (c - i)] H (ay (Z0 M (Rm M)) (Z0 M (Rm M)) (Z0 M (Rm M)) (Z2 1 70 2 71 M (Rd M)) (ay ?_ (Z0 M (Rm M)) (Z0 M (Rm M)) ?_ (bN (bT M) dB))) ?_
  ·refine eT 0 69 3 72 M M fun _ a w G1 hG HT H fin=>?_;exact abG
  ·refine eT 5 74 6 75 M M fun _ a w G1 hG HT H fin=>?_;exact abL
  clear H;intro a w G DR H hv;have H:=H.aN (hv 4 73 M M) M;have H:=H.aN (hv 7 76 M M) M;clear hv;refine TJ gV iA 0 (n - i) (xs.drop (i*2)) H wn M M M O hyl (fun j u hj=>H.hp.yu 0 M (by simpa using hcd j u hj)) (by rw [hyl];omega) hy1 rfl ?_;clear H;intro a w H;dsimp only [List.set] at H;obtain ⟨ava,avb⟩:=azJ (x:=[x0,x1]) (ys:=xs.drop (i*2)) (q:=2) Rz O M (by rw [hyl];omega);refine aG ⟨M,?_⟩;refine gU _ _ ?_;clear gU;refine kP H (SR fun _ fJ=>Rm M (Rm M ?_));clear H;intro a H;refine CW gV iA i H wn M M M O M ?_;clear H;intro a H;rw [dK,wH,add_lit,gy] at H;refine kH H (Rm M ?_);clear H;intro a H;refine TJ gV iA 0 1 [x0,x1] H wn M M M O M (hgx H.ro DR) (by rw [FP (by rw [hyl];omega)];simp;omega) hx2 rfl ?_;clear H;intro a w H;dsimp only [List.set] at H;refine fJ _ _ ?_;clear fJ;exact kP H (SR fun _ iD=>Rm M (aj iD M (LR results241 M fun H=>H.hp.gL ⟨by simp [List.length_take,hxl,hyl];omega,.inr ⟨b,c,_,rfl,rfl,O,hc2,by rw [List.size_toArray,avb,hcs],by rw [List.toList_toArray];rw [<- ava];congr 1;rw [hyl];omega⟩⟩)))
 intro h68 a H
 exact absurd (show true=false from h68) Z
set_option maxHeartbeats 4000000 in
theorem anQ (G:GH) (w0:World) (Lo:OL) (hO:gJ G Lo w0) (v:ah) (n i:Nat) (xs:List ah) (hrw:dw 187 2 v n xs Lo) (hx1:xs.all Value.oneCell'=true) (hi:i < n) (hn:n<=4294967296) :
  Calls prog 242 #[v,vi i,vi ((i:Int)+1)] w0 (fV w0 G Lo fun u G' L'=>dw 187 2 u (n - 1) (xs.take (i*2)++xs.drop ((i+1)*2)) L'):=by
 have hml:maxLen=9223372036854775807:=rfl;have hxl:=hrw.1;obtain ⟨b,c,cur,rfl,rfl,hc1,hc2,hcs,hct⟩:=hrw.2.resolve_left (fun h=>by omega);obtain ⟨cur,rfl⟩:∃ l:List ah,cur=l.toArray:=⟨cur.toList,by simp⟩
 simp only [List.size_toArray,List.toList_toArray] at hcs hct
 have Rz:cur.take (i*2)=xs.take (i*2):=by rw [<- hct,List.take_take,Nat.min_eq_left O]
 have hcd:∀ j u,(xs.drop ((i+1)*2))[j]?=some u->cur[(i+1)*2+j]?=some u:=fun j u hj=>by
  exact abS
 have hyl:(xs.drop ((i+1)*2)).length=(n - (i+1))*2:=by rw [List.length_drop,hxl];omega
 have hy1:(xs.drop ((i+1)*2)).all Value.oneCell'=true:=jE.2 fun u hu=>jE.1 hx1 u (List.mem_of_mem_drop hu)
 obtain ⟨o2,ho2,ho3⟩:∃ o2,(if c=i+1 then some ⟨b,0,none⟩ else (some ⟨b,0,none⟩:Option Addr).map (·.add ((i+1)*2)))=some ⟨b,o2,none⟩∧(i+1 < n->o2=(i+1)*2):=by
  by_cases h:c=i+1
  ·rw [aD h];exact ⟨0,M,fun h=>by omega⟩
  rw [av h,wH,add_lit,gy];exact ⟨_,M,fun _=>rfl⟩
 have hsd:=azH (ys:=xs.drop ((i+1)*2)) Rz (by rw [hyl];omega);rw [hyl,show i*2+(n - (i+1))*2=(n - 1)*2 by omega] at hsd;refine jA (N:=33) (T:=[(0,_),(1,_),(2,_)]) func242 M ntmps242 M M hO ?_;intro a H;refine kP H (SR fun _ K1=>aj K1 M (SR fun _ K2=>Rm M (Rm M (Rm M (Rm M (Rl gV M ?_))))));clear H K1;intro a H;refine azr gV iA i (i+1) n H wn M M M M M O M O O hc1 M ?_;clear H;intro v13 a H;refine K2 _ _ ?_;clear K2;refine kP H (SQ fun _ K3=>SR fun _ K4=>Rm M (Rm M (Rc M (Kz K4 (Cd M ?_ ?_))))) <;> clear H K4
 ·intro h16 a H
  try have p16:=dT h16
  exfalso;omega
 intro h16 a H
 try have p16:=dF h16
 refine kP H (Kc K3 (SR fun _ K5=>Rm M (Rl gV M (aj K5 M (SQ fun _ K6=>?_)))));clear H K3 K5;intro a H;refine dI hmx [[],[],[0,1],[],[],[3,4],ra 0 6,ra 0 7] [6,7] V [_,_,.slice (some ⟨b,0,none⟩) i c,_,_,.slice (some ⟨b,o2,none⟩) (n - (i+1)) (c - (i+1))] H (ay (Z0 M (Rm M)) (Z0 M (Rm M)) ?_ (Z0 M (Rm M)) (ay (Z0 M (Rm M)) ?_ (bT M) (bT M) dB)) ?_
 ·refine eT 0 20 1 21 M M fun _ a w G1 hG HT H fin=>?_;refine IY gV iA i H wn M M M O M ?_;exact jG
 ·refine eT 3 23 4 24 M M fun _ a w G1 hG HT H fin=>?_;refine CW gV iA (i+1) H wn M M O O M ?_;clear H;intro a H;exact fin H iJ (cZ (fun A=>Value.slice A (n - (i+1)) (c - (i+1))) ho2)
 clear H;intro a w G oD H hv;have H:=H.aN (hv 2 22 M M) M;have H:=H.aN (hv 5 25 M M) M;clear hv
 refine ayY gV iA 0 (xs.drop ((i+1)*2)) H wn M M M hyl (fun j u hj=>H.hp.yu 0 M (by
  have hj2:=(ko.1 hj).1;rw [hyl] at hj2
  rw [ho3 O];simpa using hcd j u hj)) hy1 O (by rw [hyl];omega) rfl ?_;clear H;intro a w H
 dsimp only [List.set] at H;rw [show i+(n - (i+1))=n - 1 by omega] at H;refine kH H (Ra M ?_);clear H;intro a H;refine aG ⟨M,?_⟩;refine K6 _ _ ?_;clear K6;refine kP H (SR fun _ K7=>Rm M (Rm M (Rl gV M (Rm M ?_))));clear H;intro a H;refine azq gV iA (n - 1) n H wn M M M M M O O M ?_;clear H;intro a H;rw [dK,wH,add_lit,gy,show n - (n - 1)=1 by omega] at H;refine ajp gV iA M M 0 H wn M M O (by rw [FP (by rw [hyl];omega)];omega) ?_;clear H;intro c2 w hq1 hq2 H;dsimp only [List.set] at H;refine K7 _ _ ?_;clear K7;exact kP H (SR fun _ K8=>Rm M (aj K8 M (LR results242 M fun H=>H.hp.gL ⟨by simp [List.length_take,hxl];omega,.inr ⟨b,c,_,rfl,rfl,O,hc2,by rw [List.size_toArray,hq1,FP (by rw [hyl];omega),hcs],by rw [List.toList_toArray,hq2,hsd]⟩⟩)))
def Bz (l:List aO) (k v:Int):List aO:=if oU (l.map aO.key) k=true then l.set (gQ (l.map aO.key) k) ⟨(l.getD (gQ (l.map aO.key) k) ⟨0,0⟩).key,v⟩ else l.take (gQ (l.map aO.key) k)++⟨k,v⟩ :: l.drop (gQ (l.map aO.key) k)
def Aq (l:List aO) (k:Int):List aO:=if oU (l.map aO.key) k=true then l.take (gQ (l.map aO.key) k)++l.drop (gQ (l.map aO.key) k+1) else l
theorem QE (l:List aO) (i:Nat) (h:i<=l.length):(mQ l).take (i*2)=mQ (l.take i)∧(mQ l).drop (i*2)=mQ (l.drop i):=by
 have e:mQ l=mQ (l.take i)++mQ (l.drop i):=by rw [<- Na,List.take_append_drop]
 have hl:(mQ (l.take i)).length=i*2:=by rw [Wm,List.length_take,Nat.min_eq_left h]
 rw [e];exact ⟨by rw [List.take_append_of_le_length O,jF O],by rw [List.drop_append_of_le_length O,uh O,mO]⟩
theorem aec (l:List aO):(mQ l).all Value.oneCell'=true:=by
 rw [jE];intro u hu;obtain ⟨cs,hcs,hu⟩:=List.mem_flatten.1 hu;obtain ⟨p,-,rfl⟩:=List.mem_map.1 hcs
 simp only [aO.cells,gK,List.mem_nil_iff,or_false] at hu
 rcases hu with rfl|rfl <;> rfl
theorem anN (l:List aO) (i:Nat) (h:i < l.length) (v:Int):(mQ l).set (i*2+1) (vi v)=mQ (l.set i ⟨l[i].key,v⟩):=by
 have e:mQ l=mQ (l.take i)++([vi l[i].key,vi l[i].value]++mQ (l.drop (i+1))):=by
  conv=>lhs;rw [<- List.take_append_drop i l,rR h,Na]
  rfl
 have hl:(mQ (l.take i)).length=i*2:=by rw [Wm,List.length_take,Nat.min_eq_left O]
 rw [e,List.set_append_right _ _ O,hl,show i*2+1 - i*2=1 by omega,show ([vi l[i].key,vi l[i].value]++mQ (l.drop (i+1))).set 1 (vi v)=[vi l[i].key,vi v]++mQ (l.drop (i+1)) from rfl,List.set_eq_take_append_cons_drop (l:=l),aD h,Na]
 rfl
theorem abJ {p:Prop} (h:p:=by
 have:=Rq (ks:=l.map aO.key) (t:=k) (by rw [<- hq];assumption);rw [<- hn] at this;simpa using this):p:=h
set_option maxHeartbeats 1000000 in
theorem azN (G:GH) (w0:World) (hG:Hold G w0) (l:List aO) (k x:Int) (v:ah) (hv:ak G (.sl 2 (l.map aO.dat)) v) (hl:l.length<=4294967295) :
  Calls prog 214 #[v,vi k,vi x] w0 (bG w0 G fun u G'=>ak G' (.sl 2 ((Bz l k x).map aO.dat)) u):=by
 obtain ⟨A,c,rfl,hc1,hc2,-⟩:=hv.slice;rw [bS] at *;refine eN [(0,_),(1,_),(2,_)] func214 M ntmps214 M M hG ?_;intro a H;refine kP H (SR fun _ K1=>aj K1 M (SR fun _ K2=>Rm M (Rm M ?_)));clear H K1;intro a H;refine s_call Wz H wn M (ZN _ _ H.ro l k _ hv O) M ?_;clear H;rintro v13 Je a w rfl Cw H;obtain ⟨n,hn⟩:∃ n,n=gQ (l.map aO.key) k:=⟨_,M⟩;obtain ⟨q,hq⟩:∃ q,q=oU (l.map aO.key) k:=⟨_,M⟩;rw [<- hn,<- hq] at H;refine kH H (Rm M ?_);clear H;intro a H;(iterate 2 refine lT H wn M M M ?_;clear H;intro a H);refine kH H (Ra M (aj K2 M (SR fun _ K3=>Rm M ?_)));clear H K2;intro a H;refine gM Wu (Li:=[]) (L:=[]) H wn M (aiF (Hp.owns (Li:=[]) H.hp) l _ (hv.mono Cw) O) M ?_;clear H;rintro v17 BI UC a w RZ tH H;dsimp only [List.nil_append] at H;obtain ⟨A17,c17,rfl,-,-⟩:=RZ.shape;refine kH H (aj K3 M (SQ fun _ K4=>SR fun _ K5=>Rm M (Kz K5 (Cd M ?_ ?_)))) <;> clear H K3 K5
 ·intro h18 a H
  try have tN:=dT h18
  refine bO (fun _ K6=>?_)
  have hlt:n < l.length:=by
   exact abJ
  obtain ⟨bb,rfl⟩:=RZ.ptr O;obtain ⟨cur,-,rfl,hcur,hset⟩:=RZ.set1;refine kP H (SC (Rm M (Rm M (Rm M ?_))));clear H;intro a H;refine zZ gV iA n H wn M M M O M ?_;clear H;intro a H;refine kH H (Rf QX M ?_);clear H;intro a H;refine LQ aF 0 (c:=cur) (vs:=[vi x]) (cur.set (n*2+1) (vi x)) H wn M M M M M M (by simp;omega) (by rw [gy];rfl) ?_;clear H;intro w H;dsimp only [List.set] at H;have hrwn:=hset (n*2+1) (vi x);rw [anN l n hlt] at hrwn;obtain ⟨G',hm',hrep,H⟩:=St.qp (Li:=[]) H hrwn (rows:=(l.set n ⟨l[n].key,x⟩).map aO.dat) (by simp) (SX _ _);exact kH H (Kn K6 (SR fun _ K7=>Rm M (aj K7 M (LR results214 M fun H=>H.rt (by rw [Bz,aD (by rw [<- hq];assumption),<- hn,List.getD_eq_getElem?_getD,eB hlt];exact hrep)))))
 intro h18 a H
 try have tN:=dF h18
 refine kP H (Kc K4 (SR fun _ K8=>Rm M (Rm M (Rm M (Rm M ?_)))));clear H K4;intro a H;refine jU aAu [_,_] H wn M M M M ?_;clear H;intro a H;refine iC gV iA [_,_] [_,_] H wn M M M M M (by intro i q h;match i,h with|0,h=>exact h|n+1,h=>simp at h) M M ?_;clear H;intro zH a w XD H;obtain ⟨Gb,hmb,ato,H⟩:=H.fF;refine gM apM (Li:=[]) (L:=UC) H wn M (avG _ _ UC (Hp.owns (Li:=[]) H.hp) _ l.length n (mQ l) RZ (aec l) (by rw [hn];exact Nat.le_trans (GR _ _) (by simp)) O zH (vi k) (vi x) ato M M) M ?_;clear H;rintro v31 G31 L31 a w KR aCe H;rw [(QE l n (by rw [hn];exact Nat.le_trans (GR _ _) (by simp))).1,(QE l n (by rw [hn];exact Nat.le_trans (GR _ _) (by simp))).2] at KR
 obtain ⟨G',hm',hrep,H⟩:=St.qp (Li:=[]) H KR (rows:=(l.take n++⟨k,x⟩ :: l.drop n).map aO.dat) (by simp;have:=GR (l.map aO.key) k;rw [<- hn] at this;simp at this;omega) (by
  have h:dx G31 2 ((l.take n++⟨k,x⟩ :: l.drop n).map aO.dat) (mQ (l.take n++⟨k,x⟩ :: l.drop n)):=SX _ _;rw [Na] at h
  simpa [mQ,aO.cells] using h)
 exact kH H (aj K8 M (LR results214 M fun H=>H.rt (by rw [Bz,av (by rw [<- hq];simp_all),<- hn];exact hrep)))
set_option maxHeartbeats 1000000 in
theorem anb (G:GH) (w0:World) (hG:Hold G w0) (l:List aO) (k:Int) (v:ah) (hv:ak G (.sl 2 (l.map aO.dat)) v) (hl:l.length<=4294967295) :
  Calls prog 215 #[v,vi k] w0 (bG w0 G fun u G'=>ak G' (.sl 2 ((Aq l k).map aO.dat)) u):=by
 obtain ⟨A,c,rfl,hc1,hc2,-⟩:=hv.slice;rw [bS] at *;refine eN [(0,_),(1,_)] func215 M ntmps215 M M hG ?_;intro a H;refine kP H (SR fun _ K1=>aj K1 M (SR fun _ K2=>Rm M (Rm M ?_)));clear H K1;intro a H;refine s_call Wz H wn M (ZN _ _ H.ro l k _ hv O) M ?_;clear H;rintro v11 zx a w rfl DY H;obtain ⟨n,hn⟩:∃ n,n=gQ (l.map aO.key) k:=⟨_,M⟩;obtain ⟨q,hq⟩:∃ q,q=oU (l.map aO.key) k:=⟨_,M⟩;rw [<- hn,<- hq] at H;refine kH H (Rm M ?_);clear H;intro a H;(iterate 2 refine lT H wn M M M ?_;clear H;intro a H);refine kH H (Ra M (aj K2 M (SR fun _ K3=>Rm M ?_)));clear H K2;intro a H;refine gM Wu (Li:=[]) (L:=[]) H wn M (aiF (Hp.owns (Li:=[]) H.hp) l _ (hv.mono DY) O) M ?_;clear H;rintro v15 Dg UA a w Om A9 H;dsimp only [List.nil_append] at H;obtain ⟨A15,c15,rfl,-,-⟩:=Om.shape;refine kH H (aj K3 M (SQ fun _ K4=>SR fun _ K5=>Rm M (Kz K5 (Cd M ?_ ?_)))) <;> clear H K3 K5
 ·intro h16 a H
  try have p16:=dT h16
  have hlt:n < l.length:=by
   exact abJ
  refine kP H (SC (Rm M (Rm M (Rm M (Rd M ?_)))));clear H;intro a H;refine gM apN (Li:=[]) (L:=UA) H wn M (anQ _ _ UA (Hp.owns (Li:=[]) H.hp) _ l.length n (mQ l) Om (aec l) hlt O) M ?_;clear H;rintro v21 Us zy a w CG Cx H;rw [(QE l n O).1,(QE l (n+1) O).2,<- Na] at CG;obtain ⟨G',hm',hrep,H⟩:=St.qp (Li:=[]) H CG (rows:=(l.take n++l.drop (n+1)).map aO.dat) (by simp;omega) (SX _ _);exact kH H (bD K4 M (SR fun _ K6=>Rm M (aj K6 M (LR results215 M fun H=>H.rt (by rw [Aq,aD (by rw [<- hq];assumption),<- hn];exact hrep)))))
 intro h16 a H
 try have p16:=dF h16
 obtain ⟨G',hm',hrep,H⟩:=St.qp (Li:=[]) H Om (rows:=l.map aO.dat) (by simp) (SX _ _);exact kP H (Kc K4 (SR fun _ K7=>Rm M (aj K7 M (LR results215 M fun H=>H.rt (by rw [Aq,av (by rw [<- hq];simp_all)];exact hrep)))))
theorem arn:PN prog 187 [(0,false),(1,false)]:=⟨V,V,V,V,V⟩
theorem ark:PN prog 159 [(0,false),(1,false)]:=⟨V,V,V,V,V⟩
theorem arl:PN prog 161 [(0,false),(1,false),(2,false),(3,true)]:=⟨V,V,V,V,V⟩
theorem aeD:aS 102:=aT func102 M
theorem sV:dP prog 27 0 0:=⟨V⟩
theorem Ci:dP prog 27 1 1:=⟨V⟩
theorem aoh:aS 103:=aT func103 M
theorem aoi:aS 104:=aT func104 M
abbrev gG.cells (x:gG):List ah:=[vi x.rev,vi x.move]
abbrev bZ.cells (x:bZ):List ah:=[vi x.rev,vi x.key,vi x.before,.bool x.had]
theorem Nh {G:GH} {x:gG} {cs:List ah} (h:bB G x.dat cs):cs=x.cells:=by
 simp only [gG.dat,bB,ak] at h
 obtain ⟨_,_,rfl,⟨rfl,_⟩,_,_,rfl,⟨rfl,_⟩,rfl⟩:=h
 rfl
theorem abM {p:Prop} (h:p:=by
 obtain ⟨_,_,rfl,⟨rfl,_⟩,_,_,rfl,⟨rfl,_⟩,_,_,rfl,⟨rfl,_⟩,_,_,rfl,⟨rfl,_⟩,rfl⟩:=h
 rfl):p:=h
theorem YU {G:GH} {x:bZ} {cs:List ah} (h:bB G x.dat cs):cs=x.cells:=by
 simp only [bZ.dat,bB,ak] at h
 exact abM
theorem aO.eq_iff (a b:aO):(a.key=b.key∧a.value=b.value)↔a=b:=by cases a;cases b;simp
theorem gG.eq_iff (a b:gG):(a.rev=b.rev∧a.move=b.move)↔a=b:=by cases a;cases b;simp
theorem bZ.eq_iff (a b:bZ):(a.rev=b.rev∧a.key=b.key∧a.before=b.before∧a.had=b.had)↔a=b:=by cases a;cases b;simp
instance:DecidableEq aO:=fun a b=>decidable_of_iff _ (aO.eq_iff a b)
instance:DecidableEq gG:=fun a b=>decidable_of_iff _ (gG.eq_iff a b)
instance:DecidableEq bZ:=fun a b=>decidable_of_iff _ (bZ.eq_iff a b)
theorem VK {p:Prop} (h:p:=by
 rw [rT]
 simp only [Bool.not_eq_true',vO]
 rw [<- h]
 simp [nJ]):p:=h
theorem awL (a b:aO):(!([(0,false),(1,false)].all fun o=>nJ #[vi a.key,vi a.value] o == nJ #[vi b.key,vi b.value] o))=!decide (a=b):=by
 have h:=aO.eq_iff a b;exact VK
theorem awJ (a b:gG):(!([(0,false),(1,false)].all fun o=>nJ #[vi a.rev,vi a.move] o == nJ #[vi b.rev,vi b.move] o))=!decide (a=b):=by
 have h:=gG.eq_iff a b;exact VK
theorem awK (a b:bZ):(!([(0,false),(1,false),(2,false),(3,true)].all fun o=>nJ #[vi a.rev,vi a.key,vi a.before,.bool a.had] o == nJ #[vi b.rev,vi b.key,vi b.before,.bool b.had] o))=!decide (a=b):=by
 have h:=bZ.eq_iff a b;exact VK
theorem alD {p:Prop} (h:p:=by
 exact ⟨O,by rw [kG hk2,kG hk3,hsame,hsm],fun b o h=>jS b o (hgm b o h)⟩):p:=h
theorem GL {p:Prop} (h:p:=by
 intro cK
 try have kV:=dF cK
 have hsm:A[k]=B[k]:=by simpa using cK
 refine kP H (Kc K9 (SC (Rd M (Rm M ?_))));clear H K9;intro a H;refine aG ?_;refine dY ((k+1,G)) (by exact H.sub ⟨M,M,M,M,aB⟩) ?_
 (try dsimp only);exact alD):p:=h
theorem afg (G:GH) (w0:World) (hG:Hold G w0) (A B:List aO) (v u:ah) (hv:ak G (.sl 2 (A.map aO.dat)) v) (hu:ak G (.sl 2 (B.map aO.dat)) u) :
  Calls prog 102 #[v,u] w0 (bG w0 G fun r G'=>r=.bool (decide (A=B))):=by
 obtain ⟨vA,vc,rfl,hc1,hc2,hg⟩:=hv.slice;obtain ⟨uA,uc,rfl,hd1,hd2,hh⟩:=hu.slice;have hml:maxLen=9223372036854775807:=rfl;(iterate 2 rw [bS] at *);refine eN [(0,_),(1,_)] func102 M ntmps102 M M hG ?_;intro a H;refine kP H (SR fun _ K1=>aj K1 M (SQ fun _ K2=>SR fun _ K3=>Rm M (Rl gV M (Rm M (Rl gV M (Rc M (Kz K3 (Cd M ?_ ?_)))))))) <;> clear H K1 K3
 ·intro h10 a H
  try have jc:=dT h10
  exact kP H (SR fun _ K4=>aj K4 M (LR results102 M fun H=>H.rt (gH (mY fun e=>absurd (cZ List.length e) O).symm)))
 intro h10 a H
 try have jc:=dF h10
 refine kP H (Kc K2 (SQ fun _ K5=>SR fun _ K6=>Rm M (Rl gV M (Rm M (Kz K6 (SB ?_))))));clear H K2 K6;intro a H;skip;refine eX (ι:=Nat × GH) (Tc:=[(0,_),(1,_),(12,_)]) (Lc:=[]) (fun gh=>[(13,vi gh.1)]) (fun gh=>[]) (fun gh=>gh.2) (fun gh=>gh.1<=A.length∧A.take gh.1=B.take gh.1∧(∀ b o,G b=some o->gh.2 b=some o)) (fun gh=>A.length - gh.1) ((0,G)) (by exact H.sub ⟨M,M,M,M,aB⟩) ?_ ?_
 ·exact rU
 clear H;rintro ⟨k,g⟩ a w hI H;dsimp only at hI H;obtain ⟨hk,hsame,hgm⟩:=hI;dsimp only [lca,bM] at H;refine kP H (SR fun _ K7=>Rc M (Kz K7 (SQ fun _ K8=>Cd M ?_ ?_))) <;> clear H K7
 ·intro eO a H
  try have lS:=dT eO
  have hk2:k < A.length:=by omega
  have hk3:k < B.length:=by omega
  obtain ⟨b1,o1,cs1,rfl,AX,oF,hr1⟩:=hg k A[k].dat (by simp [hk2]);obtain rfl:=SV hr1;obtain ⟨b2,o2,cs2,rfl,AY,hrow2,hr2⟩:=hh k B[k].dat (by simp [hk3]);obtain rfl:=SV hr2;refine kP H (Kc K8 (SQ fun _ K9=>SB (SR fun _ aR=>Rm M (aj aR M (SQ fun _ bq=>?_)))));clear H K8 aR;intro a H;refine dI hmx [[],[],[0,1],[0,1,2],[],[],[4,5],[4,5,6],ra 0 8] [] V [_,_,_,.agg A[k].cells.toArray,_,_,_,.agg B[k].cells.toArray,.bool (!decide (A[k]=B[k]))] H (ay (Z0 M (Rm M)) (Z0 M (Rm M)) (Z2 0 16 1 17 M (Ri gV iA M M)) ?_ (ay (Z0 M (Rm M)) (Z0 M (Rm M)) (Z2 4 20 5 21 M (Ri gV iA M M)) ?_ (bN ?_ dB))) ?_
  ·refine gN 2 18 M M fun _ a w G1 hG HT H fin=>?_;refine aU iA (cs:=A[k].cells) H wn M M (fun j v hj=>H.hp.aH (aC hG (aC hgm (oF j v hj)))) M ?_;exact jG
  ·refine gN 6 22 M M fun _ a w G1 hG HT H fin=>?_;refine aU iA (cs:=B[k].cells) H wn M M (fun j v hj=>H.hp.aH (aC hG (aC hgm (hrow2 j v hj)))) M ?_;exact jG
  ·refine eT 3 19 7 23 M M fun _ a w G1 hG HT H fin=>?_;refine ZK (.inr M) arn H wn M M M M ?_;clear H;intro a H;exact fin H iJ (gH (awL A[k] B[k]))
  clear H;intro a w G jS H hv;have H:=H.aN (hv 8 24 M M) M;clear hv;refine aG ⟨M,?_⟩;refine bq _ _ ?_;clear bq;refine jw H M ?_ ?_
  ·intro cK
   exact kP H (SR fun _ bP=>aj bP M (LR results102 M fun H=>H.rt (gH (mY fun e=>absurd cK (by subst e;simp)).symm)))
  exact GL
 intro eO a H
 try have lS:=dF eO
 refine dQ ?_;refine K5 _ _ ?_;clear K5;exact kP H (SR fun _ bU=>aj bU M (LR results102 M fun H=>H.rt (gH (mP (by rw [jF O,jF O] at hsame;exact hsame)).symm)))
theorem aqO (G:GH) (w0:World) (hG:Hold G w0) (A B:List gG) (v u:ah) (hv:ak G (.sl 2 (A.map gG.dat)) v) (hu:ak G (.sl 2 (B.map gG.dat)) u) :
  Calls prog 103 #[v,u] w0 (bG w0 G fun r G'=>r=.bool (decide (A=B))):=by
 obtain ⟨vA,vc,rfl,hc1,hc2,hg⟩:=hv.slice;obtain ⟨uA,uc,rfl,hd1,hd2,hh⟩:=hu.slice;have hml:maxLen=9223372036854775807:=rfl;(iterate 2 rw [bS] at *);refine eN [(0,_),(1,_)] func103 M ntmps103 M M hG ?_;intro a H;refine kP H (SR fun _ K1=>aj K1 M (SQ fun _ K2=>SR fun _ K3=>Rm M (Rl oK M (Rm M (Rl oK M (Rc M (Kz K3 (Cd M ?_ ?_)))))))) <;> clear H K1 K3
 ·intro h10 a H
  try have jc:=dT h10
  exact kP H (SR fun _ K4=>aj K4 M (LR results103 M fun H=>H.rt (gH (mY fun e=>absurd (cZ List.length e) O).symm)))
 intro h10 a H
 try have jc:=dF h10
 refine kP H (Kc K2 (SQ fun _ K5=>SR fun _ K6=>Rm M (Rl oK M (Rm M (Kz K6 (SB ?_))))));clear H K2 K6;intro a H;skip;refine eX (ι:=Nat × GH) (Tc:=[(0,_),(1,_),(12,_)]) (Lc:=[]) (fun gh=>[(13,vi gh.1)]) (fun gh=>[]) (fun gh=>gh.2) (fun gh=>gh.1<=A.length∧A.take gh.1=B.take gh.1∧(∀ b o,G b=some o->gh.2 b=some o)) (fun gh=>A.length - gh.1) ((0,G)) (by exact H.sub ⟨M,M,M,M,aB⟩) ?_ ?_
 ·exact rU
 clear H;rintro ⟨k,g⟩ a w hI H;dsimp only at hI H;obtain ⟨hk,hsame,hgm⟩:=hI;dsimp only [lca,bM] at H;refine kP H (SR fun _ K7=>Rc M (Kz K7 (SQ fun _ K8=>Cd M ?_ ?_))) <;> clear H K7
 ·intro eO a H
  try have lS:=dT eO
  have hk2:k < A.length:=by omega
  have hk3:k < B.length:=by omega
  obtain ⟨b1,o1,cs1,rfl,AX,oF,hr1⟩:=hg k A[k].dat (by simp [hk2]);obtain rfl:=Nh hr1;obtain ⟨b2,o2,cs2,rfl,AY,hrow2,hr2⟩:=hh k B[k].dat (by simp [hk3]);obtain rfl:=Nh hr2;refine kP H (Kc K8 (SQ fun _ K9=>SB (SR fun _ aR=>Rm M (aj aR M (SQ fun _ bq=>?_)))));clear H K8 aR;intro a H;refine dI hmx [[],[],[0,1],[0,1,2],[],[],[4,5],[4,5,6],ra 0 8] [] V [_,_,_,.agg A[k].cells.toArray,_,_,_,.agg B[k].cells.toArray,.bool (!decide (A[k]=B[k]))] H (ay (Z0 M (Rm M)) (Z0 M (Rm M)) (Z2 0 16 1 17 M (Ri oK oJ M M)) ?_ (ay (Z0 M (Rm M)) (Z0 M (Rm M)) (Z2 4 20 5 21 M (Ri oK oJ M M)) ?_ (bN ?_ dB))) ?_
  ·refine gN 2 18 M M fun _ a w G1 hG HT H fin=>?_;refine aU oJ (cs:=A[k].cells) H wn M M (fun j v hj=>H.hp.aH (aC hG (aC hgm (oF j v hj)))) M ?_;exact jG
  ·refine gN 6 22 M M fun _ a w G1 hG HT H fin=>?_;refine aU oJ (cs:=B[k].cells) H wn M M (fun j v hj=>H.hp.aH (aC hG (aC hgm (hrow2 j v hj)))) M ?_;exact jG
  ·refine eT 3 19 7 23 M M fun _ a w G1 hG HT H fin=>?_;refine ZK (.inr M) ark H wn M M M M ?_;clear H;intro a H;exact fin H iJ (gH (awJ A[k] B[k]))
  clear H;intro a w G jS H hv;have H:=H.aN (hv 8 24 M M) M;clear hv;refine aG ⟨M,?_⟩;refine bq _ _ ?_;clear bq;refine jw H M ?_ ?_
  ·intro cK
   exact kP H (SR fun _ bP=>aj bP M (LR results103 M fun H=>H.rt (gH (mY fun e=>absurd cK (by subst e;simp)).symm)))
  exact GL
 intro eO a H
 try have lS:=dF eO
 refine dQ ?_;refine K5 _ _ ?_;clear K5;exact kP H (SR fun _ bU=>aj bU M (LR results103 M fun H=>H.rt (gH (mP (by rw [jF O,jF O] at hsame;exact hsame)).symm)))
theorem aqU (G:GH) (w0:World) (hG:Hold G w0) (A B:List bZ) (v u:ah) (hv:ak G (.sl 4 (A.map bZ.dat)) v) (hu:ak G (.sl 4 (B.map bZ.dat)) u) :
  Calls prog 104 #[v,u] w0 (bG w0 G fun r G'=>r=.bool (decide (A=B))):=by
 obtain ⟨vA,vc,rfl,hc1,hc2,hg⟩:=hv.slice;obtain ⟨uA,uc,rfl,hd1,hd2,hh⟩:=hu.slice;have hml:maxLen=9223372036854775807:=rfl;(iterate 2 rw [bS] at *);refine eN [(0,_),(1,_)] func104 M ntmps104 M M hG ?_;intro a H;refine kP H (SR fun _ K1=>aj K1 M (SQ fun _ K2=>SR fun _ K3=>Rm M (Rl lU M (Rm M (Rl lU M (Rc M (Kz K3 (Cd M ?_ ?_)))))))) <;> clear H K1 K3
 ·intro h10 a H
  try have jc:=dT h10
  exact kP H (SR fun _ K4=>aj K4 M (LR results104 M fun H=>H.rt (gH (mY fun e=>absurd (cZ List.length e) O).symm)))
 intro h10 a H
 try have jc:=dF h10
 refine kP H (Kc K2 (SQ fun _ K5=>SR fun _ K6=>Rm M (Rl lU M (Rm M (Kz K6 (SB ?_))))));clear H K2 K6;intro a H;skip;refine eX (ι:=Nat × GH) (Tc:=[(0,_),(1,_),(12,_)]) (Lc:=[]) (fun gh=>[(13,vi gh.1)]) (fun gh=>[]) (fun gh=>gh.2) (fun gh=>gh.1<=A.length∧A.take gh.1=B.take gh.1∧(∀ b o,G b=some o->gh.2 b=some o)) (fun gh=>A.length - gh.1) ((0,G)) (by exact H.sub ⟨M,M,M,M,aB⟩) ?_ ?_
 ·exact rU
 clear H;rintro ⟨k,g⟩ a w hI H;dsimp only at hI H;obtain ⟨hk,hsame,hgm⟩:=hI;dsimp only [lca,bM] at H;refine kP H (SR fun _ K7=>Rc M (Kz K7 (SQ fun _ K8=>Cd M ?_ ?_))) <;> clear H K7
 ·intro eO a H
  try have lS:=dT eO
  have hk2:k < A.length:=by omega
  have hk3:k < B.length:=by omega
  obtain ⟨b1,o1,cs1,rfl,AX,oF,hr1⟩:=hg k A[k].dat (by simp [hk2]);obtain rfl:=YU hr1;obtain ⟨b2,o2,cs2,rfl,AY,hrow2,hr2⟩:=hh k B[k].dat (by simp [hk3]);obtain rfl:=YU hr2;refine kP H (Kc K8 (SQ fun _ K9=>SB (SR fun _ aR=>Rm M (aj aR M (SQ fun _ bq=>?_)))));clear H K8 aR;intro a H;refine dI hmx [[],[],[0,1],[0,1,2],[],[],[4,5],[4,5,6],ra 0 8] [] V [_,_,_,.agg A[k].cells.toArray,_,_,_,.agg B[k].cells.toArray,.bool (!decide (A[k]=B[k]))] H (ay (Z0 M (Rm M)) (Z0 M (Rm M)) (Z2 0 16 1 17 M (Ri lU jP M M)) ?_ (ay (Z0 M (Rm M)) (Z0 M (Rm M)) (Z2 4 20 5 21 M (Ri lU jP M M)) ?_ (bN ?_ dB))) ?_
  ·refine gN 2 18 M M fun _ a w G1 hG HT H fin=>?_;refine aU jP (cs:=A[k].cells) H wn M M (fun j v hj=>H.hp.aH (aC hG (aC hgm (oF j v hj)))) M ?_;exact jG
  ·refine gN 6 22 M M fun _ a w G1 hG HT H fin=>?_;refine aU jP (cs:=B[k].cells) H wn M M (fun j v hj=>H.hp.aH (aC hG (aC hgm (hrow2 j v hj)))) M ?_;exact jG
  ·refine eT 3 19 7 23 M M fun _ a w G1 hG HT H fin=>?_;refine ZK (.inr M) arl H wn M M M M ?_;clear H;intro a H;exact fin H iJ (gH (awK A[k] B[k]))
  clear H;intro a w G jS H hv;have H:=H.aN (hv 8 24 M M) M;clear hv;refine aG ⟨M,?_⟩;refine bq _ _ ?_;clear bq;refine jw H M ?_ ?_
  ·intro cK
   exact kP H (SR fun _ bP=>aj bP M (LR results104 M fun H=>H.rt (gH (mY fun e=>absurd cK (by subst e;simp)).symm)))
  exact GL
 intro eO a H
 try have lS:=dF eO
 refine dQ ?_;refine K5 _ _ ?_;clear K5;exact kP H (SR fun _ bU=>aj bU M (LR results104 M fun H=>H.rt (gH (mP (by rw [jF O,jF O] at hsame;exact hsame)).symm)))
theorem dN.eq_iff (a b:dN):(((a.props=b.props∧a.marks.ins=b.marks.ins)∧a.marks.move=b.marks.move)∧a.marks.bK=b.marks.bK)∧a.marks.layers=b.marks.layers↔a=b:=by
 obtain ⟨p,i,m,d,l⟩:=a;obtain ⟨p2,i2,m2,d2,l2⟩:=b
 simp [and_assoc]
instance:DecidableEq dN:=fun a b=>decidable_of_iff _ (dN.eq_iff a b)
abbrev sj (h:dN) (p d l:ah):ah:=.agg #[p,vi h.marks.ins,vi h.marks.move,d,l]
theorem Nq (G:GH) (w0:World) (hG:Hold G w0) (x y:dN) (p d l p2 d2 l2:ah) (hx:jr G x p d l) (hy:jr G y p2 d2 l2) :
  Calls prog 52 #[sj x p d l,sj y p2 d2 l2] w0 (bG w0 G fun r G'=>r=.bool (decide (x=y))):=by
 obtain ⟨pA,pc,rfl,-,-,-⟩:=hx.props.slice;obtain ⟨dA,dc,rfl,-,-,-⟩:=hx.bK.slice;obtain ⟨lA,lc,rfl,-,-,-⟩:=hx.layers.slice;obtain ⟨LA,pc2,rfl,-,-,-⟩:=hy.props.slice;obtain ⟨JW,JY,rfl,-,-,-⟩:=hy.bK.slice;obtain ⟨lA2,lc2,rfl,-,-,-⟩:=hy.layers.slice;have he:=dN.eq_iff x y;refine eN [(0,_),(1,_)] func52 M ntmps52 M M hG ?_;intro a H;refine dz (fun _ K1=>?_);refine dR (cs:=[_,_,_,_,_]) H wn M M M ?_;clear H;intro b2 a w hb2 H;refine dR (cs:=[_,_,_,_,_]) H wn M M M ?_;clear H;intro b3 a w hb3 H;refine kH H (aj K1 M (SR fun _ K2=>bQ yR tO 1 M M (bQ yR tO 0 M M ?_)));clear H K1;intro a H;refine s_call aeD H wn M (afg _ _ H.ro x.props y.props _ _ hx.props hy.props) M ?_;clear H;rintro v9 G9 a w rfl Bc H;refine kH H (Rm M (Sp 10 M ?_ ?_)) <;> clear H
 ·intro h10 a H
  try have jc:=dT h10
  refine kH H (YF qo h10 M (YF sV h10 M (YO aF 1 h10 M (YF qo h10 M (YF sV h10 M (YO aF 0 h10 M (YC h10 M (Pt h10 M (Rm M (Sp 19 M ?_ ?_)))))))))) <;> clear H
  ·intro h19 a H
   try have rF:=dT h19
   refine kH H (YF qo h19 M (YF Ci h19 M (YO aF 1 h19 M (YF qo h19 M (YF Ci h19 M (YO aF 0 h19 M (YC h19 M (Pt h19 M (Rm M (Sp 28 M ?_ ?_)))))))))) <;> clear H
   ·intro fZ a H
    try have p28:=dT fZ
    refine kH H (YF qo fZ M (YF uq fZ M (YO uK 1 fZ M (YF qo fZ M (YF uq fZ M (YO uK 0 fZ M ?_))))));clear H;intro a H;refine s_call aoh H (wg H M M fZ) M (aqO _ _ H.ro x.marks.bK y.marks.bK _ _ (hx.bK.mono Bc) (hy.bK.mono Bc)) M ?_;clear H;rintro v35 Uu a w rfl XW H;refine kH H (Pt fZ M (Rm M (Sp 37 M ?_ ?_))) <;> clear H
    ·intro h37 a H
     try have p37:=dT h37
     refine kH H (YF qo h37 M (YF Au h37 M (YO BA 1 h37 M (YF qo h37 M (YF Au h37 M (YO BA 0 h37 M ?_))))));clear H;intro a H;refine s_call aoi H (wg H M M h37) M (aqU _ _ H.ro x.marks.layers y.marks.layers _ _ ((hx.layers.mono Bc).mono XW) ((hy.layers.mono Bc).mono XW)) M ?_;clear H;rintro v44 G44 a w rfl NY H;exact kH H (Pt h37 M (aj K2 M (LR results52 M fun H=>H.rt (gH (by simp_all)))))
    intro h37 a H
    try have p37:=dF h37
    exact kH H (aP h37 M (aL h37 M (aL h37 M (Pf h37 M (aj K2 M (LR results52 M fun H=>H.rt (gH (by simp_all))))))))
   intro fZ a H
   try have p28:=dF fZ
   exact kH H (aP fZ M (aL fZ M (aL fZ M (Pf fZ M (Rm M (aP M M (aL M M (aL M M (Pf M M (aj K2 M (LR results52 M fun H=>H.rt (gH (by simp_all)))))))))))))
  intro h19 a H
  try have rF:=dF h19
  exact kH H (aP h19 M (aL h19 M (aL h19 M (Pf h19 M (Rm M (aP M M (aL M M (aL M M (Pf M M (Rm M (aP M M (aL M M (aL M M (Pf M M (aj K2 M (LR results52 M fun H=>H.rt (gH (by simp_all))))))))))))))))))
 intro h10 a H
 try have jc:=dF h10
 exact kH H (aP h10 M (aL h10 M (aL h10 M (Pf h10 M (Rm M (aP M M (aL M M (aL M M (Pf M M (Rm M (aP M M (aL M M (aL M M (Pf M M (Rm M (aP M M (aL M M (aL M M (Pf M M (aj K2 M (LR results52 M fun H=>H.rt (gH (by simp_all)))))))))))))))))))))))
def qY:Nat->List bZ->List (Int × List bZ)
 | 0,_=>[]
 | _+1,[]=>[]
 | f+1,y :: r=>(y.key,y :: r.takeWhile fun z=>decide (z.key=y.key)) :: qY f (r.dropWhile fun z=>decide (z.key=y.key))
def iZ (acc:Int->Bool):List bZ->Nat->Nat->Nat
 | [],_,c=>c
 | y :: r,k,c=>iZ acc r (k+1) (if acc y.rev=true then k+1 else c)
def uH (rej:Int->Bool) (yD:List (Int × Bool)):List bZ->Nat->Int × Bool->List bZ × (Int × Bool)
 | [],_,now=>([],now)
 | y :: r,k,now=>if rej y.rev=true then uH rej yD r (k+1) now else
  let q:=uH rej yD r (k+1) (yD.getD (k+1) (0,false))
  (⟨y.rev,y.key,now.1,now.2⟩ :: q.1,q.2)
def qd (props:List aO) (key:Int) (l:List bZ):List (Int × Bool):=l.map (fun y=>(y.before,y.had))++[kT props key]
def mJ (acc rej:Int->Bool) (props:List aO) (key:Int) (l:List bZ):List bZ × (Int × Bool) :=
 uH rej (qd props key l) (l.drop (iZ acc l 0 0)) (iZ acc l 0 0) ((qd props key l).getD (iZ acc l 0 0) (0,false))
def vI (l:List aO) (k:Int) (s:Int × Bool):List aO:=if s.2=true then Bz l k s.1 else Aq l k
def um (acc rej:Int->Bool) (props:List aO):List (Int × List bZ)->List aO × List bZ->List aO × List bZ
 | [],s=>s
 | (k,l) :: r,s=>um acc rej props r (vI s.1 k (mJ acc rej props k l).2,s.2++(mJ acc rej props k l).1)
def lZ (acc rej:Int->Bool) (h:dN):Prop:=(h.marks.ins≠0∧rej h.marks.ins=true)∨∃ x∈h.marks.bK,acc x.rev=true
instance (acc rej:Int->Bool) (h:dN):Decidable (lZ acc rej h):=inferInstanceAs (Decidable (_∨_))
def kU (acc:Int->Bool) (h:dN):Prop:=h.marks.ins≠0∧acc h.marks.ins=true
instance (acc:Int->Bool) (h:dN):Decidable (kU acc h):=inferInstanceAs (Decidable (_∧_))
def iI (acc rej:Int->Bool) (h:dN):dN :=
 let q:=um acc rej h.props (qY h.marks.layers.length h.marks.layers) (h.props,[])
 ⟨q.1,⟨if kU acc h then 0 else h.marks.ins,if kU acc h then 0 else h.marks.move,h.marks.bK.filter fun x=>!rej x.rev,q.2⟩⟩
def BG:dN:=⟨[],⟨0,0,[],[]⟩⟩
def aaD (b:Bool) (h:dN) (u:ah) (G:GH):Prop:=∃ p d l,u=.tuple #[sj h p d l,.bool b]∧jr G h p d l
theorem akJ (G:GH):jr G BG (.slice none 0 0) (.slice none 0 0) (.slice none 0 0):=⟨ak.qK M Z,ak.qK M Z,ak.qK M Z⟩
theorem azK (l:List aO) (k v:Int):(Bz l k v).length<=l.length+1:=by
 unfold Bz;split
 ·rw [List.length_set];omega
 have:=GR (l.map aO.key) k;rw [bS] at this
 simp only [iW,List.length_take,lW,List.length_drop];omega
theorem anx (l:List aO) (k:Int):(Aq l k).length<=l.length:=by
 unfold Aq;split
 ·have:=GR (l.map aO.key) k;rw [bS] at this
  simp only [iW,List.length_take,List.length_drop];omega
 exact eG _
theorem akv (l:List aO) (k:Int) (s:Int × Bool):(vI l k s).length<=l.length+1:=by
 unfold vI;split
 ·exact azK _ _ _
 have:=anx l k;omega
theorem afK (acc:Int->Bool):∀ (l:List bZ) (k c:Nat),c<=k->iZ acc l k c<=k+l.length
 | [],k,c,h=>by rw [iZ];simpa using h
 | y :: r,k,c,h=>by
  rw [iZ]
  have:=afK acc r (k+1) (if acc y.rev=true then k+1 else c) (by split <;> omega)
  simp only [lW];omega
theorem YS (rej:Int->Bool) (yD:List (Int × Bool)):∀ (l:List bZ) (k:Nat) (now:Int × Bool),(uH rej yD l k now).1.length<=l.length
 | [],_,_=>by rw [uH];exact eG _
 | y :: r,k,now=>by
  rw [uH];split
  ·have:=YS rej yD r (k+1) now;simp only [lW];omega
  have:=YS rej yD r (k+1) (yD.getD (k+1) (0,false));simp only [lW];omega
theorem Xd (acc rej:Int->Bool) (props:List aO) (key:Int) (l:List bZ):(mJ acc rej props key l).1.length<=l.length:=by
 have:=YS rej (qd props key l) (l.drop (iZ acc l 0 0)) (iZ acc l 0 0) ((qd props key l).getD (iZ acc l 0 0) (0,false));rw [List.length_drop] at this
 unfold mJ;omega
theorem abH {p:Prop} (h:p:=by
 have:=(List.dropWhile_sublist (l:=r) fun z=>decide (z.key=y.key)).length_le
 simp only [lW] at h;omega):p:=h
theorem Hg:∀ (f:Nat) (l:List bZ),l.length<=f->(qY f l).flatMap Prod.snd=l∧∀ q∈qY f l,q.2≠[]
 | 0,l,h=>by
  have:l=[]:=List.eq_nil_of_length_eq_zero O;subst this;exact ⟨M,fun q hq=>by cases hq⟩
 | f+1,[],_=>⟨M,fun q hq=>by cases hq⟩
 | f+1,y :: r,h=>by
  have h2:(r.dropWhile fun z=>decide (z.key=y.key)).length<=f:=by
   exact abH
  obtain ⟨e1,e2⟩:=Hg f _ h2;rw [qY];refine ⟨?_,fun q hq=>?_⟩
  ·rw [List.flatMap_cons,e1]
   show (y :: _)++_=_
   rw [qm,List.takeWhile_append_dropWhile]
  rcases gK.1 hq with rfl|hq
  ·exact List.cons_ne_nil _ _
  exact e2 q hq
theorem ZT:Jq prog 172:=⟨V⟩
theorem amH:prog.cellsOf 5=1:=by kernel_rfl
theorem awQ (v:ah) (w:World):(callFunc 210 #[v]).run prog w=.ok (.value v) w:=ayR func210 V V V V v w
theorem O6:prog.underlying 169=some (.pointer 172):=by kernel_rfl
theorem akc:prog.underlying 280=some .unsafePointer:=by kernel_rfl
theorem Nt:dP prog 172 0 0:=⟨V⟩
theorem OZ:Ty prog 169 1 8 [.pointer none] false:=⟨V,V⟩
theorem aoK:aS 154:=aT func154 M
theorem I8:prog.underlying 170=some (.slice 5):=by kernel_rfl
theorem J5:dP prog 172 1 1:=⟨V⟩
theorem LY:Ty prog 170 1 24 [.slice none 0 0] false:=⟨V,V⟩
theorem aAK:prog.underlying 231=some (.pointer 5):=by kernel_rfl
theorem jo:Ty prog 49 1 8 [.int .i64 0] false:=⟨V,V⟩
theorem rM:prog.underlying 203=some (.slice 49):=by kernel_rfl
theorem yO:aS 128:=aT func128 M
theorem za (G:GH) (w0:World) (hG:Hold G w0) (n l h:Int):Calls prog 128 #[vi n,vi l,vi h] w0 (bG w0 G fun u G'=>u=.bool (decide (l<=n∧n<=h))∧G=G'):=by
 refine eN [(0,_),(1,_),(2,_)] func128 M ntmps128 M M hG ?_;intro a H;refine kP H (SR fun _ K1=>aj K1 M (SR fun _ K2=>Rm M (Rm M (Rc M (Rm M (Sp 10 M ?_ ?_)))))) <;> clear H K1
 ·intro h10 a H
  try have jc:=dT h10
  exact kH H (YM h10 M (YM h10 M (YC h10 M (Pt h10 M (aj K2 M (LR results128 M fun H=>H.rt ⟨gH (by first|(simp_all;done)|(simp_all;omega)),rfl⟩))))))
 intro h10 a H
 try have jc:=dF h10
 exact kH H (aP h10 M (Pf h10 M (aj K2 M (LR results128 M fun H=>H.rt ⟨gH (by first|(simp_all;done)|(simp_all;omega)),rfl⟩))))
def dL (b:Bool) (e:Int):Int:=if b=true then e else 0
theorem nE (G:GH) (w0:World) (hG:Hold G w0) (b:Bool) (e:Int):Calls prog 71 #[.bool b,vi e] w0 (bG w0 G fun u G'=>u=vi (dL b e)∧G=G'):=by
 refine eN [(0,_),(1,_)] func71 M ntmps71 M M hG ?_;intro a H;refine kP H (SR fun _ K1=>aj K1 M (SQ fun _ K2=>SR fun _ K3=>Rm M (Kz K3 (Cd M ?_ ?_)))) <;> clear H K1 K3
 ·intro h5 a H
  try have p5:=dT h5
  exact kP H (SR fun _ K4=>Rm M (aj K4 M (LR results71 M fun H=>H.rt ⟨cZ vi (by simp_all [dL]),M⟩)))
 intro h5 a H
 try have p5:=dF h5
 exact kP H (Kc K2 (SR fun _ K5=>aj K5 M (LR results71 M fun H=>H.rt ⟨cZ vi (by simp_all [dL]),M⟩)))
def dO:List Int->Int
 | []=>0
 | e :: r=>if e≠0 then e else dO r
theorem Q6 {l:List Int} {k:Nat} (h:k < l.length):dO (l.drop k)=if l[k]≠0 then l[k] else dO (l.drop (k+1)):=by
 rw [rR h,dO]
theorem sW (G:GH) (w0:World) (hG:Hold G w0) (l:List Int) (v:ah) (hv:ak G (.sl 1 (l.map fun k=>[li k])) v) :
  Calls prog 66 #[v] w0 (bG w0 G fun u G'=>u=vi (dO l)∧G=G'):=by
 obtain ⟨A,c,rfl,hc1,hc2,hg⟩:=hv.slice;have hml:maxLen=9223372036854775807:=rfl;rw [bS] at *;refine eN [(0,_)] func66 M ntmps66 M M hG ?_;intro a H;refine kP H (SR fun _ K1=>aj K1 M (SQ fun _ K2=>SR fun _ K3=>Rm M (Rl rM M (Rm M (Kz K3 (SB ?_))))));clear H K1 K3;intro a H;skip;refine eX (ι:=Nat) (Tc:=[(5,_),(6,_)]) (Lc:=[]) (fun gh=>[(7,vi gh)]) (fun gh=>[]) (fun gh=>G) (fun gh=>gh<=l.length∧dO (l.drop gh)=dO l) (fun gh=>l.length - gh) (0) (by exact H.sub ⟨M,M,M,aB⟩) ?_ ?_
 ·exact JC
 clear H;intro k a w hI H;obtain ⟨hk,he⟩:=hI;dsimp only [lca,bM] at H;refine kP H (SR fun _ K4=>Rc M (Kz K4 (SQ fun _ K5=>Cd M ?_ ?_))) <;> clear H K4
 ·intro h8 a H
  try have p8:=dT h8
  have hk2:k < l.length:=by omega
  obtain ⟨b,o,cs,rfl,hcl,hrow,hr⟩:=hg k [li l[k]] (by simp [hk2]);obtain ⟨v1,_,rfl,⟨rfl,-⟩,rfl⟩:∃ v vs,cs=v :: vs∧ak G (li l[k]) v∧bB G [] vs:=hr
  have hcell:aH G b (o+k*1)=some (vi l[k]):=by simpa using hrow 0 _ M
  refine kP H (Kc K5 (SQ fun _ K6=>SB (SR fun _ K7=>Ri rM jo M M (Rg jo M hcell (aj K7 M (SR fun _ K8=>Rm M (Rc M (Kz K8 (Cd M ?_ ?_))))))))) <;> clear H K5 K7 K8
  ·intro h12 a H
   try have rE:=dT h12
   exact kP H (SR fun _ K9=>Rm M (aj K9 M (LR results66 M fun H=>H.rt ⟨cZ vi (by rw [Q6 hk2,aD rE] at he;exact he),M⟩)))
  intro h12 a H
  try have rE:=dF h12
  refine kP H (Kc K6 (SC (Rd M (Rm M ?_))));clear H K6;intro a H;refine aG ?_;refine dY ((k+1)) (by exact H.sub ⟨M,M,M,aB⟩) ?_
  exact ⟨O,by rw [Q6 hk2,av rE] at he;exact he⟩
 intro h8 a H
 try have p8:=dF h8
 refine dQ ?_;refine K2 _ _ ?_;clear K2;exact kP H (SR fun _ aR=>aj aR M (LR results66 M fun H=>H.rt ⟨cZ vi (by rw [uh O] at he;exact he),M⟩))
def vJ (fv:ah) (Gi:GH) (n:Nat) (E:Nat->Int):Prop:=∀ i,i < n->∀ (G1:GH) (w1:World),(∀ b o,Gi b=some o->G1 b=some o)->Hold G1 w1->sJ prog fv [vi i] w1 (bG w1 G1 fun u G'=>u=vi (E i))
theorem vJ.mono {fv:ah} {G G':GH} {n:Nat} {E:Nat->Int} (h:vJ fv G n E) (hm:∀ b o,G b=some o->G' b=some o):vJ fv G' n E:=fun i hi G1 w1 hG1=>h i hi G1 w1 fun b o hb=>hG1 b o (hm b o hb)
def iX (E:Nat->Int) (n:Nat):Int:=dO ((List.range n).map E)
theorem Gn {E:Nat->Int} {n k:Nat} (h:k < n):dO (((List.range n).map E).drop k)=if E k≠0 then E k else dO (((List.range n).map E).drop (k+1)):=by
 rw [Q6 (by simpa using h)];simp
theorem alE {p:Prop} (h:p:=by
 exact ⟨O,by rw [Gn hk2,av tL] at he;exact he,fun b o h=>Cw b o (hgm b o h)⟩):p:=h
theorem acX {p:Prop} (h:p:=by
 refine kP H (Kc K6 (SC (Rd M (Rm M ?_))));clear H K6;intro a H;refine aG ?_;refine dY ((k+1,Je)) (by exact H.sub ⟨M,M,M,aB⟩) ?_
 (try dsimp only);exact alE):p:=h
theorem MI (G:GH) (w0:World) (hG:Hold G w0) (n:Nat) (E:Nat->Int) (fv:ah) (hn:n<=4611686018427387904) (hf:vJ fv G n E) :
  Calls prog 123 #[vi n,fv] w0 (bG w0 G fun u G'=>u=vi (iX E n)):=by
 refine eN [(0,_),(1,_)] func123 M ntmps123 M M hG ?_;intro a H;refine kP H (SR fun _ K1=>aj K1 M (SQ fun _ K2=>SR fun _ K3=>Rm M (Rm M (Kz K3 (SB ?_)))));clear H K1 K3;intro a H;skip;refine eX (ι:=Nat × GH) (Tc:=[(1,_),(7,_)]) (Lc:=[]) (fun gh=>[(8,vi gh.1)]) (fun gh=>[]) (fun gh=>gh.2) (fun gh=>gh.1<=n∧dO (((List.range n).map E).drop gh.1)=iX E n∧(∀ b o,G b=some o->gh.2 b=some o)) (fun gh=>n - gh.1) ((0,G)) (by exact H.sub ⟨M,M,M,aB⟩) ?_ ?_
 ·exact EJ
 clear H;rintro ⟨k,g⟩ a w hI H;dsimp only at hI H;obtain ⟨hk,he,hgm⟩:=hI;dsimp only [lca,bM] at H;refine kP H (SR fun _ K4=>Rc M (Kz K4 (SQ fun _ K5=>Cd M ?_ ?_))) <;> clear H K4
 ·intro h9 a H
  try have p9:=dT h9
  have hk2:k < n:=by omega
  refine kP H (Kc K5 (SQ fun _ K6=>SB (SR fun _ K7=>Rm M (aj K7 M (SR fun _ K8=>Rm M (Rm M ?_))))));clear H K5 K7;intro a H;refine jO H wn M M (hf k hk2 _ _ hgm H.ro) M ?_;clear H;rintro v13 Je a w rfl Cw H;refine kH H (aj K8 M (SR fun _ K9=>Rm M (Rc M (Kz K9 (Cd M ?_ ?_))))) <;> clear H K8 K9
  ·intro jM a H
   try have tL:=dT jM
   exact kP H (SR fun _ aR=>Rm M (aj aR M (LR results123 M fun H=>H.rt (cZ vi (by rw [Gn hk2,aD tL] at he;exact he)))))
  intro jM a H
  try have tL:=dF jM
  exact acX
 intro h9 a H
 try have p9:=dF h9
 refine dQ ?_;refine K2 _ _ ?_;clear K2;exact kP H (SR fun _ bq=>aj bq M (LR results123 M fun H=>H.rt (cZ vi (by rw [uh (by simp;omega)] at he;exact he))))
def wV (id:Nat->Int) (i:Nat):Int:=if ¬ (1<=id i∧id i<=1073741824) then 18 else if 0 < i∧id i=id (i - 1) then 7 else if 0 < i∧id i < id (i - 1) then 6 else 0
theorem Qg {p:Prop} (h:p:=by
 exact H.rt (cZ vi (by unfold wV;(repeat' split) <;> first|rfl|(exfalso;simp_all;done)|(exfalso;simp_all;omega)))):p:=h
theorem VE {p:Prop} (h:p:=by
 intro a H;refine lr H results125 M ?_
 exact Qg):p:=h
theorem VG {p:Prop} (h:p:=by
 refine lr H results125 M ?_
 exact Qg):p:=h
theorem ahA (G:GH) (w0:World) (hG:Hold G w0) (i:Nat) (id:Nat->Int) (fv:ah) (hn:i<=4611686018427387904) (hf:vJ fv G (i+1) id) :
  Calls prog 125 #[vi i,fv] w0 (bG w0 G fun u G'=>u=vi (wV id i)):=by
 refine eN [(0,_),(1,_)] func125 M ntmps125 M M hG ?_;intro a H;refine kP H (SR fun _ K1=>aj K1 M (SQ fun _ K2=>SB (SR fun _ K3=>Rm M (Rm M ?_))));clear H K1;intro a H;refine jO H wn M M (hf i (Nat.lt_succ_self _) _ _ (fun _ _ h=>h) H.ro) M ?_;clear H;rintro v8 G8 a w rfl rz H;refine s_call yO H wn M (za _ _ H.ro (id i) 1 1073741824) M ?_;clear H;rintro v9 _ a w ⟨rfl,rfl⟩ - H;refine kH H (Rn M (aj K3 M (Cd M ?_ ?_))) <;> clear H K3
 ·intro h5 a H
  try have p5:=dT h5
  refine kP H (SR fun _ K4=>aj K4 M ?_);clear H K4;exact VE
 intro h5 a H
 try have p5:=dF h5
 refine kP H (SR fun _ K5=>Rm M (Rc M (Rm M (Sp 14 M ?_ ?_)))) <;> clear H
 ·intro eO a H
  try have lS:=dT eO
  refine kH H (YM eO M (YM eO M ?_));clear H;intro a H;refine jO H (wg H M M eO) M M (hf i (Nat.lt_succ_self _) _ _ rz H.ro) M ?_;clear H;rintro v17 BI a w rfl tH H;refine kH H (YM eO M (YM eO M ?_));clear H;intro a H;refine zo _ H (wg H M M eO) M M M O O M ?_;clear H;intro a H;rw [show ((i:Int) - 1)=((i - 1:Nat):Int) by omega] at H;refine jO H (wg H M M eO) M M (hf (i - 1) O _ _ (fun b o h=>tH b o (rz b o h)) H.ro) M ?_;clear H;rintro v21 Us a w rfl Cx H;refine kH H (YC eO M (Pt eO M (aj K5 M (Cd M ?_ ?_)))) <;> clear H K5
  ·intro h11 a H
   try have sD:=dT h11
   refine kP H (SR fun _ K6=>aj K6 M ?_);clear H K6;intro a H;exact VG
  intro h11 a H
  try have sD:=dF h11
  refine kP H (SR fun _ K7=>Rm M (Rc M (Rm M (Sp 27 M ?_ ?_)))) <;> clear H
  ·intro h27 a H
   try have p27:=dT h27
   refine kH H (YM h27 M (YM h27 M ?_));clear H;intro a H;refine jO H (wg H M M h27) M M (hf i (Nat.lt_succ_self _) _ _ (fun b o h=>by first|exact Cx b o (tH b o (rz b o h))|(exfalso;omega)) H.ro) rfl ?_;clear H;rintro v30 F4 a w rfl H8 H;refine kH H (YM h27 M (YM h27 M ?_));clear H;intro a H;refine zo _ H (wg H M M h27) M M M O O M ?_;clear H;intro a H;rw [show ((i:Int) - 1)=((i - 1:Nat):Int) by omega] at H;refine jO H (wg H M M h27) M M (hf (i - 1) O _ _ (fun b o h=>by first|exact H8 b o (Cx b o (tH b o (rz b o h)))|(exfalso;omega)) H.ro) rfl ?_;clear H;rintro v34 Mk a w rfl Fe H;refine kH H (YC h27 M (Pt h27 M (aj K7 M (Cd M ?_ ?_)))) <;> clear H K7
   ·intro cK a H
    try have kV:=dT cK
    refine kP H (SR fun _ K8=>aj K8 M ?_);clear H K8;intro a H;refine lr H results125 M ?_
    exact Qg
   intro cK a H
   try have kV:=dF cK
   refine kP H (Kc K2 (SR fun _ K9=>aj K9 M ?_));clear H K2 K9;intro a H;exact VG
  intro h27 a H
  try have p27:=dF h27
  refine kH H (aP h27 M (aP h27 M (aL h27 M (Pf h27 M (aj K7 M (Cf M M (Kc K2 (SR fun _ aR=>aj aR M ?_))))))));clear H K7 K2 aR;exact VE
 intro eO a H
 try have lS:=dF eO
 refine kH H (aP eO M (aP eO M (aL eO M (Pf eO M (aj K5 M (Cf M M (SR fun _ bq=>Rm M (Rc M (Rm M (Sp 27 M ?_ ?_)))))))))) <;> clear H K5
 ·intro h27 a H
  try have p27:=dT h27
  refine kH H (YM h27 M (YM h27 M ?_));clear H;intro a H;refine jO H (wg H M M h27) M M (hf i (Nat.lt_succ_self _) _ _ (fun b o h=>by first|exact Cx b o (tH b o (rz b o h))|(exfalso;omega)) H.ro) rfl ?_;clear H;rintro v30 F4 a w rfl H8 H;refine kH H (YM h27 M (YM h27 M ?_));clear H;intro a H;refine zo _ H (wg H M M h27) M M M O O M ?_;clear H;intro a H;rw [show ((i:Int) - 1)=((i - 1:Nat):Int) by omega] at H;refine jO H (wg H M M h27) M M (hf (i - 1) O _ _ (fun b o h=>by first|exact H8 b o (Cx b o (tH b o (rz b o h)))|(exfalso;omega)) H.ro) rfl ?_;clear H;rintro v34 Mk a w rfl Fe H;refine kH H (YC h27 M (Pt h27 M (aj bq M (Cd M ?_ ?_)))) <;> clear H bq
  ·intro cK a H
   try have kV:=dT cK
   refine kP H (SR fun _ bP=>aj bP M ?_);clear H bP;intro a H;exact VG
  intro cK a H
  try have kV:=dF cK
  refine kP H (Kc K2 (SR fun _ bU=>aj bU M ?_));clear H K2 bU;exact VE
 intro h27 a H
 try have p27:=dF h27
 refine kH H (aP h27 M (aP h27 M (aL h27 M (Pf h27 M (aj bq M (Cf M M (Kc K2 (SR fun _ dh=>aj dh M ?_))))))));clear H bq K2 dh;intro a H;refine lr H results125 M ?_
 exact Qg
theorem ng:aS 71:=aT func71 M
theorem sU:aS 66:=aT func66 M
def xH (s:ByteArray):Bool:=decide (1<=s.size∧s.size<=40) && sI s
theorem aaM (G:GH) (w0:World) (hG:Hold G w0) (s:ByteArray) (hs:s.size < 4611686018427387904):Calls prog 127 #[.string s] w0 (bG w0 G fun u G'=>u=.bool (xH s)∧G=G'):=by
 refine eN [(0,_)] func127 M ntmps127 M M hG ?_;intro a H;refine kP H (SR fun _ K1=>aj K1 M (SR fun _ K2=>Rm M (Rv iY M (Rc M (Rm M (Sp 6 M ?_ ?_)))))) <;> clear H K1
 ·intro h6 a H
  try have p6:=dT h6
  refine kH H (YM h6 M ?_);clear H;intro a H;refine FM iY H (wg H M M h6) M M ?_;clear H;intro a H;refine kH H (YC h6 M (Pt h6 M (Rm M (Sp 11 M ?_ ?_)))) <;> clear H
  ·intro h11 a H
   try have sD:=dT h11
   refine kH H (YM h11 M ?_);clear H;intro a H;refine s_call Nk H (wg H M M h11) M (Pk _ _ H.ro s hs) M ?_;clear H;rintro v13 _ a w ⟨rfl,rfl⟩ - H;exact kH H (Pt h11 M (aj K2 M (LR results127 M fun H=>H.rt ⟨gH (by unfold xH;first|(simp_all;done)|(simp_all;omega)),rfl⟩)))
  intro h11 a H
  try have sD:=dF h11
  exact kH H (aL h11 M (Pf h11 M (aj K2 M (LR results127 M fun H=>H.rt ⟨gH (by unfold xH;first|(simp_all;done)|(simp_all;omega)),rfl⟩))))
 intro h6 a H
 try have p6:=dF h6
 exact kH H (aP h6 M (Pf h6 M (Rm M (aL M M (Pf M M (aj K2 M (LR results127 M fun H=>H.rt ⟨gH (by unfold xH;first|(simp_all;done)|(simp_all;omega)),rfl⟩)))))))
def Er (s:ByteArray):Int:=dO [dL (!sI s) 12,dL (decide (1024 < (s.size:Int))) 10]
theorem Ab {G:GH} {b:Nat} {x y:Int} (h:G b=some (.cells #[vi x,vi y] 49 (0,0))):ak G (.sl 1 ([x,y].map fun k=>[li k])) (.slice (some ⟨b,0,none⟩) 2 2) :=
 ak.wz (n:=2) (cap:=2) h M (eG _) (show 2<=maxLen by decide) (jF (eG _)) (Eb G [x,y])
theorem ajQ (G:GH) (w0:World) (hG:Hold G w0) (s:ByteArray) (hs:s.size < 4611686018427387904):Calls prog 190 #[.string s] w0 (bG w0 G fun u G'=>u=vi (Er s)):=by
 refine eN [(0,_)] func190 M ntmps190 M M hG ?_;intro a H;refine kP H (SR fun _ K1=>aj K1 M (SR fun _ K2=>Rm M ?_));clear H K1;intro a H;refine s_call Nk H wn M (Pk _ _ H.ro s hs) M ?_;clear H;rintro v4 _ a w ⟨rfl,rfl⟩ - H;refine kH H (Rn M ?_);clear H;intro a H;refine s_call ng H wn M (nE _ _ H.ro _ 12) M ?_;clear H;rintro v6 _ a w ⟨rfl,rfl⟩ - H;refine kH H (Rm M (Rv iY M (Rc M ?_)));clear H;intro a H;refine s_call ng H wn M (nE _ _ H.ro _ 10) M ?_;clear H;rintro v10 _ a w ⟨rfl,rfl⟩ - H;refine iC rM jo [_,_] [_,_] H wn M M M M M (by intro i q h;match i,h with|0,h=>exact h|1,h=>exact h|n+2,h=>simp at h) M M ?_;clear H;intro b11 a w Kt H;obtain ⟨zx,DY,Cr,H⟩:=H.fF;refine s_call sU H wn M (sW _ _ H.ro _ _ (Ab Cr)) M ?_;clear H;rintro v12 _ a w ⟨rfl,rfl⟩ - H;exact kH H (aj K2 M (LR results190 M fun H=>H.rt M))
def Sm (c:Int):Bool:=decide (97<=xI .or .u8 c 32) && decide (xI .or .u8 c 32<=122)
def Lj (c:Int):Bool:=(decide (48<=c) && decide (c<=57)) || decide (c=45) || decide (c=95)
def OB (s:ByteArray) (k:Nat):Bool:=Sm (gX s k) || (decide (k≠0) && Lj (gX s k))
def xM (s:ByteArray):Bool:=decide (1<=s.size∧s.size<=40) && (List.range s.size).all (OB s)
theorem JD {p:Prop} (h:p:=by
 first|(simp_all;done)|(simp_all;omega)):p:=h
theorem U3 {p:Prop} (h:p:=by
 first
  | exact H.rt ⟨gH (by
    unfold xM
    rw [show k=s.size by omega] at hall
    rw [hall,mP O];rfl),rfl⟩
  | exact H.rt ⟨gH (by
    unfold xM
    rw [show (List.range s.size).all (OB s)=false from List.all_eq_false.2 ⟨k,by simpa using hk2,by unfold OB;simp_all⟩,Bool.and_false]),M⟩):p:=h
theorem abb {p:Prop} (h:p:=by
 exact ⟨O,by rw [List.range_succ,List.all_append,hall];simp [OB];simp_all⟩):p:=h
theorem acM {p:Prop} (h:p:=by
 intro h46 a H
 try have p46:=dT h46
 refine kH H (aL h46 M (aL h46 M (Pt h46 M (Ra M ?_))));clear H;intro a H;refine aG ?_;refine ⟨_,by exact H.sub ⟨M,M,M,M,M,M,aB⟩,?_⟩
 unfold Lj;exact JD):p:=h
theorem aeb (G:GH) (w0:World) (hG:Hold G w0) (s:ByteArray) (hs:s.size < 4611686018427387904):Calls prog 192 #[.string s] w0 (bG w0 G fun u G'=>u=.bool (xM s)∧G=G'):=by
 refine eN [(0,_)] func192 M ntmps192 M M hG ?_;intro a H;refine kP H (SR fun _ K1=>aj K1 M (SQ fun _ K2=>SR fun _ K3=>Rm M (Rv iY M (Rc M (Rm M (Sp 10 M ?_ ?_)))))) <;> clear H K1
 ·intro h10 a H
  try have jc:=dT h10
  exact kH H (aP h10 M (Pt h10 M (Kz K3 (Ct M M (SR fun _ K4=>aj K4 M (LR results192 M fun H=>H.rt ⟨gH (by unfold xM;rw [mY O];rfl),rfl⟩))))))
 intro h10 a H
 try have jc:=dF h10
 refine kH H (YM h10 M ?_);clear H;intro a H;refine FM iY H (wg H M M h10) M M ?_;clear H;intro a H;refine kH H (YC h10 M (Pf h10 M (Kz K3 (Cd M ?_ ?_)))) <;> clear H K3
 ·intro eO a H
  try have lS:=dT eO
  exact kP H (SR fun _ K5=>aj K5 M (LR results192 M fun H=>H.rt ⟨gH (by unfold xM;rw [mY O];rfl),rfl⟩))
 intro eO a H
 try have lS:=dF eO
 refine kP H (Kc K2 (SQ fun _ K6=>SR fun _ K7=>Rm M (Rv iY M (Rm M (Kz K7 (SB ?_))))));clear H K2 K7;intro a H;skip;refine eX (ι:=Nat) (Tc:=[(0,_),(16,_)]) (Lc:=[]) (fun gh=>[(17,vi gh)]) (fun gh=>[]) (fun gh=>G) (fun gh=>gh<=s.size∧(List.range gh).all (OB s)=true) (fun gh=>s.size - gh) (0) (by exact H.sub ⟨M,M,M,aB⟩) ?_ ?_
 ·exact JC
 clear H;intro k a w hI H;obtain ⟨hk,hall⟩:=hI;dsimp only [lca,bM] at H;refine kP H (SR fun _ K8=>Rc M (Kz K8 (SQ fun _ K9=>Cd M ?_ ?_))) <;> clear H K8
 ·intro h18 a H
  try have tN:=dT h18
  have hk2:k < s.size:=by omega
  refine kP H (Kc K9 (SQ fun _ aR=>SB (SR fun _ bq=>Rm M (aj bq M (SR fun _ bP=>Rm M (Rm M ?_))))));clear H K9 bq;intro a H;refine qM k iY H wn M M M O M ?_;clear H;intro a H;rw [<- pF] at H;refine TI M H wn M M M ?_;clear H;intro a H;refine kH H (aj bP M ?_);clear H bP;intro a H;refine uj (ι:=Bool) (Tc:=[(0,_),(3,_),(16,_),(17,_)]) (Lc:=[]) (fun gh=>[(5,.bool gh)]) (fun gh=>[]) (fun gh=>G) (fun gh=>gh=Sm (gX s k)) (by exact H.sub ⟨M,M,M,M,aB⟩) ?_ ?_
  ·skip;refine kP H (SC (Rm M (Rc M (Rm M (Sp 26 M ?_ ?_))))) <;> clear H
   ·intro jB a H
    try have p26:=dT jB
    refine kH H (YM jB M (YC jB M (Pt jB M (Ra M ?_))));clear H;intro a H;refine aG ?_;refine ⟨_,by exact H.sub ⟨M,M,M,M,M,aB⟩,?_⟩
    unfold Sm;exact JD
   intro jB a H
   try have p26:=dF jB
   refine kH H (aL jB M (Pf jB M (Ra M ?_)));clear H;intro a H;refine aG ?_;refine ⟨_,by exact H.sub ⟨M,M,M,M,M,aB⟩,?_⟩
   unfold Sm;exact JD
  clear H;intro lt a w hI H;have hlt:=hI;dsimp only [lca,bM] at H;refine uj (ι:=Bool) (Tc:=[(0,_),(3,_),(5,_),(16,_),(17,_)]) (Lc:=[]) (fun gh=>[(6,.bool gh)]) (fun gh=>[]) (fun gh=>G) (fun gh=>gh=Lj (gX s k)) (by exact H.sub ⟨M,M,M,M,M,aB⟩) ?_ ?_
  ·skip;refine kP H (SC (Rm M (Rm M ?_)));clear H;intro a H;refine qM k iY H wn M M M O M ?_;clear H;intro a H;rw [<- pF] at H;refine kH H (Rc M (Rm M (Sp 34 M ?_ ?_))) <;> clear H
   ·intro fq a H
    try have p34:=dT fq
    refine kH H (YM fq M (YM fq M ?_));clear H;intro a H;refine qM k iY H (wg H M M fq) M M M O M ?_;clear H;intro a H;rw [<- pF] at H;refine kH H (YC fq M (Pt fq M (Rm M (Sp 40 M ?_ ?_)))) <;> clear H
    ·intro lC a H
     try have p40:=dT lC
     refine kH H (aL lC M (aL lC M (Pt lC M (Rm M (aL M M (aL M M (Pt M M (Ra M ?_))))))));clear H;intro a H;refine aG ?_;refine ⟨_,by exact H.sub ⟨M,M,M,M,M,M,aB⟩,?_⟩
     unfold Lj;exact JD
    intro lC a H
    try have p40:=dF lC
    refine kH H (YM lC M (YM lC M ?_));clear H;intro a H;refine qM k iY H (wg H M M lC) M M M O M ?_;clear H;intro a H;rw [<- pF] at H;refine kH H (YC lC M (Pf lC M (Rm M (Sp 46 M ?_ ?_)))) <;> clear H
    ·exact acM
    intro h46 a H
    try have p46:=dF h46
    refine kH H (YM h46 M (YM h46 M ?_));clear H;intro a H;refine qM k iY H (wg H M M h46) M M M O M ?_;clear H;intro a H;rw [<- pF] at H;refine kH H (YC h46 M (Pf h46 M (Ra M ?_)));clear H;intro a H;refine aG ?_;refine ⟨_,by exact H.sub ⟨M,M,M,M,M,M,aB⟩,?_⟩
    unfold Lj;exact JD
   intro fq a H
   try have p34:=dF fq
   refine kH H (aL fq M (aL fq M (Pf fq M (Rm M ?_))));clear H;intro a H;(iterate 2 refine LM H (wg H M M M) M M ?_;clear H;intro a H);refine qM k iY H (wg H M M M) M M M O M ?_;clear H;intro a H;rw [<- pF] at H;refine LJ H (wg H M M M) M M M M ?_;clear H;intro a H;refine kH H (Pf M M (Rm M (Sp 46 M ?_ ?_))) <;> clear H
   ·exact acM
   intro h46 a H
   try have p46:=dF h46
   refine kH H (YM h46 M (YM h46 M ?_));clear H;intro a H;refine qM k iY H (wg H M M h46) M M M O M ?_;clear H;intro a H;rw [<- pF] at H;refine kH H (YC h46 M (Pf h46 M (Ra M ?_)));clear H;intro a H;refine aG ?_;refine ⟨_,by exact H.sub ⟨M,M,M,M,M,M,aB⟩,?_⟩
   unfold Lj;exact JD
  clear H;intro ot a w hI H;have hot:=hI;dsimp only [lca,bM] at H;refine kP H (SR fun _ bU=>Rm M (Rn M (Rm M (Sp 54 M ?_ ?_)))) <;> clear H
  ·intro iF a H
   try have p54:=dT iF
   refine kH H (YM iF M (YC iF M (YM iF M (Sp 57 M ?_ ?_)))) <;> clear H
   ·intro h57 a H
    try have p57:=dT h57
    refine kH H (aL h57 M (PT iF h57 M (Pt iF M (Kz bU (Ct M M (SR fun _ dh=>aj dh M ?_))))));clear H bU dh;intro a H;refine lr H results192 M ?_
    exact U3
   intro h57 a H
   try have p57:=dF h57
   refine kH H (YM h57 M (YN h57 M (PF iF h57 M (Pt iF M (Kz bU (Cd M ?_ ?_)))))) <;> clear H bU
   ·intro Hl a H
    try have p61:=dT Hl
    refine kP H (SR fun _ dZ=>aj dZ M ?_);clear H dZ;intro a H;refine lr H results192 M ?_
    exact U3
   intro Hl a H
   try have p61:=dF Hl
   refine kP H (Kc aR (SC (Rd M (Rm M ?_))));clear H aR;intro a H;refine aG ?_;refine dY ((k+1)) (by exact H.sub ⟨M,M,M,aB⟩) ?_
   exact abb
  intro iF a H
  try have p54:=dF iF
  refine kH H (aP iF M (Ku M (Ku M (Ks iF M (Pf iF M (Kz bU (Cf M M (Kc aR (SC (Rd M (Rm M ?_)))))))))));clear H bU aR;intro a H;refine aG ?_;refine dY ((k+1)) (by exact H.sub ⟨M,M,M,aB⟩) ?_
  exact abb
 intro h18 a H
 try have tN:=dF h18
 refine dQ ?_;refine K6 _ _ ?_;clear K6;refine kP H (SR fun _ eu=>aj eu M ?_);clear H eu;intro a H;refine lr H results192 M ?_
 exact U3
section
section
variable {N:Nat} {D:List Deferred} {w0:World} {F:Nat->Prop} {G0 G:GH} {L:OL} {T:List (Nat × ah)}
variable {r:Option Nat} {P:Program} {ops:Array Oper} {Q:Exit->Act->World->Prop} {rest:List Oper} {a:Act} {w:World}
variable {d:Nat} {ty:TypeId} {pos:String} {aQ:Array Edge} {g:Option (Nat × Bool)}
end
end
section
section
variable {N:Nat} {D:List Deferred} {w0:World} {F:Nat->Prop} {G0 G:GH} {L:OL} {T T':List (Nat × ah)}
variable {r:Option Nat} {P:Program} {Q:Exit->Act->World->Prop} {l:List Oper} {a a':Act} {w w':World} {ε:Type}
def Js (l:List Oper) (pr:ε->Nat->ah->Prop) (T:List (Nat × ah)) (S:Nat->Bool) (E:ε) (T':List (Nat × ah)):Prop :=
 (∀ t v,lk T t=some v->lk T' t=some v)∧∀ i d,S i=true->dV l i=some d->∃ v,lk T' d=some v∧pr E i v
theorem Js.put {pr:ε->Nat->ah->Prop} {S:Nat->Bool} {E E':ε} {i d:Nat} {v:ah} (h:Js l pr T S E T') (hok:anX l T=true) (hi:dV l i=some d) (hv:pr E' i v) (hE:∀ j u,j≠i->pr E j u->pr E' j u):Js l pr T (cO S i) E' ((d,v) :: T'):=by
 have hil:=rX hi
 have hok1:=jE.1 hok i (vN.2 hil)
 rw [pR,hi] at hok1
 simp only [iL,Option.isNone_iff_eq_none,jE,vN] at hok1
 refine ⟨fun t u ht=>?_,fun j e hj he=>?_⟩
 ·rw [wW (fun e=>by subst e;rw [hok1.1] at ht;cases ht)];exact h.1 t u ht
 ·by_cases hji:j=i
  ·subst hji;rw [hi] at he;cases he;exact ⟨v,yg _ _ _,hv⟩
  ·have hSj:S j=true:=by unfold cO at hj;rwa [av hji] at hj
   obtain ⟨u,hu1,hu2⟩:=h.2 j e hSj he
   have hne:d≠e:=by
    intro e';subst e'
    have h2:=hok1.2 j (rX he)
    have hb:Nat.beq i j=false:=qF (fun h=>hji h.symm)
    rw [hb,he] at h2
    simp at h2
   exact ⟨u,by rw [wW hne];exact hu1,hE j u hji hu2⟩
theorem Js.add {pr:ε->Nat->ah->Prop} {S:Nat->Bool} {E:ε} (h:Js l pr T S E T') {t:Nat} {u:ah} (hu:lk T' t=some u):Js l pr T S E ((t,u) :: T'):=by
 have e:∀ s v,lk T' s=some v->lk ((t,u) :: T') s=some v:=fun s v hs=>by
  by_cases hst:t=s
  ·subst hst;rw [hu] at hs;cases hs;exact yg _ _ _
  ·rw [wW hst];exact hs
 exact ⟨fun s v hs=>e s v (h.1 s v hs),fun i d hi hd=>by
  obtain ⟨v,h1,h2⟩:=h.2 i d hi hd
  exact ⟨v,e d v h1,h2⟩⟩
end
end
section
section
variable {N:Nat} {D:List Deferred} {w0:World} {F:Nat->Prop} {G0 G G1 G2:GH} {L L1:OL} {T Xs:List (Nat × ah)}
variable {r:Option Nat} {P:Program} {Q:Exit->Act->World->Prop} {l:List Oper} {a a':Act} {w w':World}
theorem EM {id:Nat} (hm:P.follows .mixedOrders=true) (bJ:List (List Nat)) (B:List Nat) (hk:xO l bJ=true) (hB:wC l bJ B=true) (X:(Nat->Bool)->Act->World->Prop) (h0:X (fun _=>false) a w.drew)
  (hstep:∀ i o S a w,l[i]?=some o->B.contains i=false->S i=false->(∀ j∈bJ.getD i [],S j=true)->(∀ j,j < l.length->i∈bJ.getD j []->S j=false)->X S a w->WL r P l.toArray (fun e a' w'=>e=.normal∧X (cO S i) a' w') [o] a w)
  (hend:∀ S a w,(∀ i,i < l.length->B.contains i=false->S i=true)->(∀ i,B.contains i=true->S i=false)->X S a w->WL r P l.toArray (fun e a w=>e=.normal∧Q .normal a w) (qb l B) a w):WP r P (.region id l.toArray true) Q a w:=by
 have hB1:∀ p b,B[p]?=some b->b < l.length∧∀ i,i < l.length->(B.contains i=false∨(B.take p).contains i=true)->i∈bJ.getD b []:=by
  intro p b hp
  simp only [wC,iL] at hB
  have h1:=jE.1 hB.1 p (vN.2 (ko.1 hp).1)
  rw [hp] at h1
  simp only [iL,jE,vN] at h1
  refine ⟨Eq.mp Nat.blt_eq h1.1,fun i hi hor=>?_⟩
  have h2:=h1.2 i hi
  rcases hor with h3|h3
  ·have h4:i∉B:=by simpa using h3
   simpa [h4] using h2
  ·have h4:i∈B.take p:=by simpa using h3
   simpa [h4] using h2
 have hB2:∀ i,i < l.length->B.contains i=false->∀ j∈bJ.getD i [],B.contains j=false:=by
  intro i hi hb j hj
  simp only [wC,iL] at hB
  have h1:=jE.1 hB.2 i (vN.2 hi)
  rw [hb] at h1
  simp only [Bool.false_or,jE] at h1
  simpa using h1 j hj
 refine adw hm bJ hk (fun S a w=>((∀ i,B.contains i=true->S i=false)∧X S a w) ∨
   ∃ p,(∀ i,i < l.length->B.contains i=false->S i=true)∧(∀ i,(B.take p).contains i=true->S i=true)∧(∀ q b,B[q]?=some b->p<=q->S b=false)∧WL r P l.toArray (fun e a w=>e=.normal∧Q .normal a w) (qb l (B.drop p)) a w)
  (.inl ⟨fun _ _=>rfl,h0⟩) ?_ ?_
 ·intro i o S a w ho hX aM jm hdesc
  have hil:i < l.length:=(ko.1 ho).1
  by_cases hbi:B.contains i=true
  ·-- an operation of the tail: all that stands ahead of it is done
   obtain ⟨p0,hp0⟩:=List.getElem?_of_mem (by simpa using hbi:i∈B)
   have hall:∀ j,j < l.length->B.contains j=false->S j=true:=fun j hj hb=>jm j ((hB1 p0 i hp0).2 j hj (.inl hb))
   have Yf:∃ p,(∀ i,(B.take p).contains i=true->S i=true)∧(∀ q b,B[q]?=some b->p<=q->S b=false)∧WL r P l.toArray (fun e a w=>e=.normal∧Q .normal a w) (qb l (B.drop p)) a w:=by
    rcases hX with ⟨h1,hD⟩|⟨p,_,h2,h3,h4⟩
    ·exact ⟨0,by simp,fun q b hq _=>h1 b (by simpa using lV hq),hend S a w hall h1 hD⟩
    ·exact ⟨p,h2,h3,h4⟩
   obtain ⟨p,h2,h3,h4⟩:=Yf
   -- i is the next one
   have hpp:p<=p0:=by
    rcases Nat.lt_or_ge p0 p with hlt|hge
    ·have:(B.take p).contains i=true:=by
      simp only [qE]
      exact lV (i:=p0) (by rw [uN,aD hlt];exact hp0)
     rw [h2 i this] at aM;cases aM
    ·exact hge
   have Ii:p < B.length:=by have:=(ko.1 hp0).1;omega
   have hbp:B[p]?=some B[p]:=eB Ii
   have heq:B[p]=i:=by
    rcases Nat.lt_or_ge p p0 with hlt|hge
    ·exfalso
     have hin:B[p]∈bJ.getD i []:=(hB1 p0 i hp0).2 _ (hB1 p _ hbp).1 (.inr (by
      simp only [qE]
      exact lV (i:=p) (by rw [uN,aD hlt];exact hbp)))
     have:=jm _ hin
     rw [h3 p _ hbp (eG _)] at this;cases this
    ·have:p=p0:=by omega
     subst this
     rw [hbp] at hp0;simpa using hp0
   have hdrop:B.drop p=i :: B.drop (p+1):=by rw [rR Ii,heq]
   have hops:qb l (B.drop p)=o :: qb l (B.drop (p+1)):=by rw [hdrop];simp [qb,ho]
   rw [hops] at h4
   refine aky (fun a' w' h5=>.inr ⟨p+1,fun j hj hb=>?_,fun j hj=>?_,fun q b hq hpq=>?_,h5⟩) h4
   ·unfold cO;split
    ·rfl
    ·exact hall j hj hb
   ·unfold cO;split
    ·rfl
    ·rename_i hne
     refine h2 j ?_
     simp only [qE] at hj |-
     rw [kG Ii,jQ] at hj
     rcases hj with hj|hj
     ·exact hj
     ·simp only [oC] at hj;exact absurd (hj.trans heq) hne
   ·unfold cO
    rw [av ?_]
    ·exact h3 q b hq O
    ·rintro rfl
     -- i would stand twice in B: it would come ahead of itself
     have h6:=(hB1 q b hq).2 b (hB1 q b hq).1 (.inr (by
      simp only [qE]
      exact lV (i:=p) (by rw [uN,aD O];rw [hbp,heq])))
     rw [jm _ h6] at aM;cases aM
  ·have HV:B.contains i=false:=by cases h:B.contains i with|false=>rfl|true=>exact absurd h hbi
   rcases hX with ⟨h1,hX⟩|⟨p,h0,_,_,_⟩
   ·refine nG (fun e a' w' ⟨he,hD⟩=>⟨he,.inl ⟨fun j hj=>?_,hD⟩⟩) (hstep i o S a w ho HV aM jm hdesc hX)
    unfold cO
    rw [av (by rintro rfl;rw [HV] at hj;cases hj)]
    exact h1 j hj
   ·rw [h0 i hil HV] at aM;cases aM
 ·intro S a w hall hX
  rcases hX with ⟨h1,hD⟩|⟨p,_,_,h3,h4⟩
  ·have hnil:B=[]:=by
    cases B with
    | nil=>rfl
    | cons b B=>have h5:=h1 b (by simp);rw [hall b (hB1 0 b M).1] at h5;cases h5
   subst hnil
   exact (hend S a w (fun j hj _=>hall j hj) h1 hD).2
  ·have hnil:B.drop p=[]:=by
    cases hd:B.drop p with
    | nil=>rfl
    | cons b B' =>
     have hb:B[p]?=some b:=by
      have:=cZ (fun x:List Nat=>x[0]?) hd
      simpa using this
     have h5:=h3 p b hb (eG _)
     rw [hall b (hB1 p b hb).1] at h5;cases h5
   rw [hnil] at h4
   exact h4.2
theorem amg {id:Nat} (hm:P.follows .mixedOrders=true) (bJ:List (List Nat)) (B:List Nat) (hk:xO l bJ=true) (hB:wC l bJ B=true) (m:Nat) (Oa:B.contains m=false) (ob:Obj) (pr:Nat->Nat->ah->GH->Prop)
  (Oi:∀ b b' i v G,i≠m->pr b i v G->pr b' i v G) (H:St N D w0 F G0 G L T a w)
  (hstep:allI (fun i o=>∀ b L' S a w G1,B.contains i=false->Nat.beq i m=false->S i=false->(∀ j∈bJ.getD i [],S j=true)->(∀ k o,G k=some o->G1 k=some o)->St N D w0 F G0 G1 L' T a w->(∀ i d,S i=true->dV l i=some d->∃ v,a.tmps[d]?=some v∧pr b i v G1) ->
   WL r P l.toArray (fun e a' w'=>e=.normal∧DX N D w0 F G0 G L' T l (pr b) (cO S i) a' w') [o] a w) 0 l)
  (hmid:∀ o S a w G1,l[m]?=some o->S m=false->(∀ j∈bJ.getD m [],S j=true)->(∀ k o,G k=some o->G1 k=some o)->St N D w0 F G0 G1 L T a w->(∀ b i d,i≠m->S i=true->dV l i=some d->∃ v,a.tmps[d]?=some v∧pr b i v G1) ->
   WL r P l.toArray (fun e a' w'=>e=.normal∧∃ b,DX N D w0 F G0 G ((b,ob) :: L) T l (pr b) (cO S m) a' w') [o] a w)
  (hend:∀ b a w G1,(∀ k o,G k=some o->G1 k=some o)->St N D w0 F G0 G1 ((b,ob) :: L) T a w->(∀ i d,B.contains i=false->dV l i=some d->∃ v,a.tmps[d]?=some v∧pr b i v G1)->WL r P l.toArray (fun e a w=>e=.normal∧Q .normal a w) (qb l B) a w)
  (hml:Nat.blt m l.length=true):WP r P (.region id l.toArray true) Q a w:=by
 refine EM hm bJ B hk hB (fun S a w=>∃ b L',(S m=false->L'=L)∧(S m=true->L'=(b,ob) :: L)∧DX N D w0 F G0 G L' T l (pr b) S a w)
  ⟨0,L,fun _=>rfl,fun h=>absurd (show false=true from h) Z,G,fun _ _ h=>h,H.move H.hp.drew,fun _ _ h=>absurd (show false=true from h) Z⟩ ?_ ?_
 ·rintro i o S a w ho hb aM jm hdesc ⟨b,L',h1,h2,G1,hG,HS,hv⟩
  by_cases him:i=m
  ·subst him
   have e:=h1 aM;subst e
   have h:=hmid o S a w G1 ho aM jm hG HS fun b' j d hj hSj hd=>by
    obtain ⟨v,hv1,hv2⟩:=hv j d hSj hd
    exact ⟨v,hv1,Oi b b' j v _ hj hv2⟩
   have e1:cO S i i=true:=aD M
   exact nG (fun e a' w' ⟨he,b',hD⟩=>⟨he,b',_,fun h=>absurd (e1.symm.trans h) Z,fun _=>rfl,hD⟩) h
  ·have h:=yH hstep i o ho
   rw [gy] at h
   have e:cO S i m=S m:=av (fun h=>him h.symm)
   exact nG (fun e' a' w' ⟨he,hD⟩=>⟨he,b,L',fun h=>h1 (e ▸ h),fun h=>h2 (e ▸ h),hD⟩) (h b L' S a w G1 hb (qF him) aM jm hG HS hv)
 ·rintro S a w hall Ib ⟨b,L',h1,h2,G1,hG,HS,hv⟩
  have KH:S m=true:=hall m (Eq.mp Nat.blt_eq hml) Oa
  have e:=h2 KH;subst e
  exact hend b a w G1 hG HS fun j d hb hd=>hv j d (hall j (rX hd) hb) hd
theorem aex {pr:Nat->ah->GH->Prop} {S:Nat->Bool} {i d:Nat} {v:ah} (hok:pR l T i=true) (hi:dV l i=some d) 
  (HT:St N D w0 F G0 G1 L T a w) (Hb:St N D w0 F G0 G1 L (Xs++full N a) a w) (hG:∀ k o,G k=some o->G1 k=some o) (hv:∀ j d,j≠i->S j=true->dV l j=some d->∃ v,a.tmps[d]?=some v∧pr j v G1)
  (hp:pr i v G1) (H:St N D w0 F G0 G1 L1 ((d,v) :: (Xs++full N a)) a' w'):DX N D w0 F G0 G L1 T l pr (cO S i) a' w':=by
 have hil:i < l.length:=rX hi
 have hok1:=hok
 rw [pR,hi] at hok1
 simp only [iL,Option.isNone_iff_eq_none,jE,vN] at hok1
 have hsame:∀ t,t≠d->a'.tmps[t]?=a.tmps[t]?:=by
  intro t ht
  by_cases hlt:t < N
  ·have h1:∃ u,lk (Xs++full N a) t=some u:=by
    rw [Sj]
    cases lk Xs t with
    | some u=>exact ⟨u,M⟩
    | none=>exact ⟨_,Sk a hlt⟩
   obtain ⟨u,hu⟩:=h1
   rw [Hb.get t u hu,H.get t u (by rw [wW (Ne.symm ht)];exact hu)]
  ·rw [Array.getElem?_eq_none (by rw [H.oP];omega),Array.getElem?_eq_none (by rw [Hb.oP];omega)]
 refine ⟨G1,hG,⟨H.oP,fun t u ht=>?_,H.uU,H.hp⟩,fun j e hj he=>?_⟩
 ·rw [hsame t (fun e=>by rw [e,hok1.1] at ht;cases ht)]
  exact HT.get t u ht
 ·by_cases hji:j=i
  ·subst hji
   rw [hi] at he
   simp only [pO] at he
   subst he
   exact ⟨v,H.get d v (yg _ _ _),hp⟩
  ·have hSj:S j=true:=by unfold cO at hj;rwa [av hji] at hj
   obtain ⟨u,hu1,hu2⟩:=hv j e hji hSj he
   have hne:e≠d:=by
    intro e'
    subst e'
    have h2:=hok1.2 j (rX he)
    rw [qF (fun h=>hji h.symm),he] at h2
    simp at h2
   exact ⟨u,by rw [hsame e hne];exact hu1,hu2⟩
end
end
section
section
variable {N:Nat} {D:List Deferred} {w0:World} {F:Nat->Prop} {G0 G G1 G2:GH} {L L1:OL} {T Xs:List (Nat × ah)}
variable {r:Option Nat} {P:Program} {Q:Exit->Act->World->Prop} {l:List Oper} {a a':Act} {w w':World}
theorem amh {id:Nat} (hm:P.follows .mixedOrders=true) (bJ:List (List Nat)) (B:List Nat) (hk:xO l bJ=true) (hB:wC l bJ B=true) (m:Nat) (Oa:B.contains m=false) (ob:Obj) (pr:Nat->Nat->ah->GH->Prop)
  (Oi:∀ b b' i v G,i≠m->pr b i v G->pr b' i v G) (H:St N D w0 F G0 G L T a w)
  (hstep:allI (fun i o=>∀ b L' S a w G1,(∀ x,x∈L->x∈L')->B.contains i=false->Nat.beq i m=false->S i=false->(∀ j∈bJ.getD i [],S j=true)->(∀ k o,G k=some o->G1 k=some o)->St N D w0 F G0 G1 L' T a w->(∀ i d,S i=true->dV l i=some d->∃ v,a.tmps[d]?=some v∧pr b i v G1) ->
   WL r P l.toArray (fun e a' w'=>e=.normal∧DX N D w0 F G0 G L' T l (pr b) (cO S i) a' w') [o] a w) 0 l)
  (hmid:∀ o S a w G1,l[m]?=some o->S m=false->(∀ j∈bJ.getD m [],S j=true)->(∀ k o,G k=some o->G1 k=some o)->St N D w0 F G0 G1 L T a w->(∀ b i d,i≠m->S i=true->dV l i=some d->∃ v,a.tmps[d]?=some v∧pr b i v G1) ->
   WL r P l.toArray (fun e a' w'=>e=.normal∧∃ b,DX N D w0 F G0 G ((b,ob) :: L) T l (pr b) (cO S m) a' w') [o] a w)
  (hend:∀ b a w G1,(∀ k o,G k=some o->G1 k=some o)->St N D w0 F G0 G1 ((b,ob) :: L) T a w->(∀ i d,B.contains i=false->dV l i=some d->∃ v,a.tmps[d]?=some v∧pr b i v G1)->WL r P l.toArray (fun e a w=>e=.normal∧Q .normal a w) (qb l B) a w)
  (hml:Nat.blt m l.length=true):WP r P (.region id l.toArray true) Q a w:=by
 refine EM hm bJ B hk hB (fun S a w=>∃ b L',(S m=false->L'=L)∧(S m=true->L'=(b,ob) :: L)∧DX N D w0 F G0 G L' T l (pr b) S a w)
  ⟨0,L,fun _=>rfl,fun h=>absurd (show false=true from h) Z,G,fun _ _ h=>h,H.move H.hp.drew,fun _ _ h=>absurd (show false=true from h) Z⟩ ?_ ?_
 ·rintro i o S a w ho hb aM jm hdesc ⟨b,L',h1,h2,G1,hG,HS,hv⟩
  by_cases him:i=m
  ·subst him
   have e:=h1 aM;subst e
   have h:=hmid o S a w G1 ho aM jm hG HS fun b' j d hj hSj hd=>by
    obtain ⟨v,hv1,hv2⟩:=hv j d hSj hd
    exact ⟨v,hv1,Oi b b' j v _ hj hv2⟩
   have e1:cO S i i=true:=aD M
   exact nG (fun e a' w' ⟨he,b',hD⟩=>⟨he,b',_,fun h=>absurd (e1.symm.trans h) Z,fun _=>rfl,hD⟩) h
  ·have h:=yH hstep i o ho
   rw [gy] at h
   have e:cO S i m=S m:=av (fun h=>him h.symm)
   exact nG (fun e' a' w' ⟨he,hD⟩=>⟨he,b,L',fun h=>h1 (e ▸ h),fun h=>h2 (e ▸ h),hD⟩) (h b L' S a w G1 (fun x hx=>by
    cases hS:S m with
    | false=>rw [h1 hS];exact hx
    | true=>rw [h2 hS];exact gW _ hx) hb (qF him) aM jm hG HS hv)
 ·rintro S a w hall Ib ⟨b,L',h1,h2,G1,hG,HS,hv⟩
  have KH:S m=true:=hall m (Eq.mp Nat.blt_eq hml) Oa
  have e:=h2 KH;subst e
  exact hend b a w G1 hG HS fun j d hb hd=>hv j d (hall j (rX hd) hb) hd
end
end
section
section
variable {N:Nat} {D:List Deferred} {w0:World} {F:Nat->Prop} {G0 G G1 G2:GH} {L L1 L2:OL} {T Xs:List (Nat × ah)}
variable {r:Option Nat} {P:Program} {Q:Exit->Act->World->Prop} {l:List Oper} {a a':Act} {w w':World}
theorem anW {pr:Nat->ah->GH->Prop} {S:Nat->Bool} {i:Nat} (hi:dV l i=none) (HT:St N D w0 F G0 G1 L T a w) (hG:∀ k o,G k=some o->G1 k=some o) (hv:∀ i d,S i=true->dV l i=some d->∃ v,a.tmps[d]?=some v∧pr i v G1)
  (H:St N D w0 F G0 G1 L2 (Xs++full N a) a w'):DX N D w0 F G0 G L2 T l pr (cO S i) a w' :=
 ⟨G1,hG,HT.move H.hp,fun j e hj he=>hv j e (by
  unfold cO at hj
  by_cases hji:j=i
  ·subst hji;rw [hi] at he;cases he
  ·rwa [av hji] at hj) he⟩
theorem ady {id:Nat} (hm:P.follows .mixedOrders=true) (bJ:List (List Nat)) (B:List Nat) (hk:xO l bJ=true) (hB:wC l bJ B=true) (m:Nat) (Oa:B.contains m=false) (pr:Nat->ah->GH->Prop) (ix:Nat) (ob:Nat × Obj)
  (H:St N D w0 F G0 G L T a w)
  (hstep:allI (fun i o=>∀ S a w G1,B.contains i=false->Nat.beq i m=false->S i=false->(∀ j∈bJ.getD i [],S j=true)->(∀ k o,G k=some o->G1 k=some o)->St N D w0 F G0 G1 L T a w->(∀ i d,S i=true->dV l i=some d->∃ v,a.tmps[d]?=some v∧pr i v G1) ->
   WL r P l.toArray (fun e a' w'=>e=.normal∧DX N D w0 F G0 G L T l pr (cO S i) a' w') [o] a w) 0 l)
  (hmid:∀ o S a w G1,l[m]?=some o->S m=false->(∀ j∈bJ.getD m [],S j=true)->(∀ k o,G k=some o->G1 k=some o)->St N D w0 F G0 G1 L T a w->(∀ i d,S i=true->dV l i=some d->∃ v,a.tmps[d]?=some v∧pr i v G1) ->
   WL r P l.toArray (fun e a' w'=>e=.normal∧DX N D w0 F G0 G (L.set ix ob) T l pr (cO S m) a' w') [o] a w)
  (hstep2:allI (fun i o=>∀ S a w G1,(B.contains i || (bJ.getD m []).contains i)=false->Nat.beq i m=false->S i=false->(∀ j∈bJ.getD i [],S j=true)->(∀ k o,G k=some o->G1 k=some o)->St N D w0 F G0 G1 (L.set ix ob) T a w->(∀ i d,S i=true->dV l i=some d->∃ v,a.tmps[d]?=some v∧pr i v G1) ->
   WL r P l.toArray (fun e a' w'=>e=.normal∧DX N D w0 F G0 G (L.set ix ob) T l pr (cO S i) a' w') [o] a w) 0 l)
  (hend:∀ a w G1,(∀ k o,G k=some o->G1 k=some o)->St N D w0 F G0 G1 (L.set ix ob) T a w->(∀ i d,B.contains i=false->dV l i=some d->∃ v,a.tmps[d]?=some v∧pr i v G1)->WL r P l.toArray (fun e a w=>e=.normal∧Q .normal a w) (qb l B) a w)
  (hml:Nat.blt m l.length=true):WP r P (.region id l.toArray true) Q a w:=by
 refine EM hm bJ B hk hB (fun S a w=>(S m=false∧DX N D w0 F G0 G L T l pr S a w)∨(S m=true∧DX N D w0 F G0 G (L.set ix ob) T l pr S a w))
  (.inl ⟨rfl,G,fun _ _ h=>h,H.move H.hp.drew,fun _ _ h=>absurd (show false=true from h) Z⟩) ?_ ?_
 ·rintro i o S a w ho hb aM jm hdesc hX
  by_cases him:i=m
  ·subst him
   rcases hX with ⟨_,G1,hG,HS,hv⟩|⟨h1,_⟩
   ·have h:=hmid o S a w G1 ho aM jm hG HS hv
    have e1:cO S i i=true:=aD M
    exact nG (fun e a' w' ⟨he,hD⟩=>⟨he,.inr ⟨e1,hD⟩⟩) h
   ·rw [h1] at aM;cases aM
  ·have e:cO S i m=S m:=av (fun h=>him h.symm)
   rcases hX with ⟨h1,G1,hG,HS,hv⟩|⟨h1,G1,hG,HS,hv⟩
   ·have h:=yH hstep i o ho
    rw [gy] at h
    exact nG (fun e' a' w' ⟨he,hD⟩=>⟨he,.inl ⟨e.trans h1,hD⟩⟩) (h S a w G1 hb (qF him) aM jm hG HS hv)
   ·have h:=yH hstep2 i o ho
    rw [gy] at h
    have hnc:(B.contains i || (bJ.getD m []).contains i)=false:=by
     rw [hb,Bool.false_or]
     cases hc2:(bJ.getD m []).contains i with
     | false=>rfl
     | true=>have:=hdesc m (Eq.mp Nat.blt_eq hml) (qE.1 hc2);rw [h1] at this;cases this
    exact nG (fun e' a' w' ⟨he,hD⟩=>⟨he,.inr ⟨e.trans h1,hD⟩⟩) (h S a w G1 hnc (qF him) aM jm hG HS hv)
 ·rintro S a w hall Ib hX
  have KH:S m=true:=hall m (Eq.mp Nat.blt_eq hml) Oa
  rcases hX with ⟨h1,_⟩|⟨h1,G1,hG,HS,hv⟩
  ·rw [h1] at KH;cases KH
  ·exact hend a w G1 hG HS fun j d hb hd=>hv j d (hall j (rX hd) hb) hd
end
end
theorem awd:liesAt prog prog.depth 340 (7 / prog.cellsOf 340) 2 172 1=true:=by kernel_rfl
theorem TV:Ty prog 5 1 1 [.int .u8 0] false:=⟨V,V⟩
abbrev iO (b:Nat) (s:ByteArray) (i:Int) (p v q:ah) (pl e:Int):Nat × Obj:=(b,.cells #[.string s,vi i,p,v,q,vi pl,vi e] 340 (0,0))
theorem azE (G:GH) (L:OL) (w0:World) (b:Nat) (s:ByteArray) (i:Int) (A:Option Addr) (n c:Nat) (B:Option Addr) (m d:Nat) (pl e:Int) (hO:gJ G (iO b s i (.pointer none) (.slice A n c) (.slice B m d) pl e :: L) w0) :
  Calls prog 154 #[(aK b 2)] w0 (fV w0 G (iO b s i (.pointer none) (.slice A n c) (.slice B m d) pl e :: L) fun u G' L'=>L'=iO b s i (aK b 2) (.slice A n c) (.slice B m d) pl e :: L∧G'=G):=by
 refine jA (N:=20) (T:=[(0,_)]) func154 M ntmps154 M M hO ?_;intro a H;refine kP H (SR fun _ K1=>Rm M (Rk M (bQ Nt OZ 0 M M ?_)));clear H;intro a H;refine ajq O6 H wn M M ?_;clear H;intro a H;refine K1 _ _ ?_;clear K1;refine jw H M ?_ ?_
 ·intro h6
  refine kP H (SC (Rm M (Rm M ?_)));clear H;intro a H;refine azw O6 akc ZT H wn M 0 M M M ?_;clear H;intro a H;refine azm (xs:=[.tmp 9]) (awQ _) H wn M M ?_;clear H;intro a H;refine azg akc O6 ZT H wn M 0 M awd M ?_;clear H;intro a H;refine kH H (Rk M (Rf Nt M ?_));clear H;intro a H;refine bC OZ 0 (vs:=[_]) H wn M ?_;clear H;intro w H;refine aG ?_;refine (leave0 H results154 ?_).2;exact H.hp.gL ⟨M,M⟩
 intro h6
 exact absurd h6 Z
theorem azF (G:GH) (L:OL) (w0:World) (b:Nat) (s:ByteArray) (i:Int) (A:Option Addr) (n c:Nat) (B:Option Addr) (m d:Nat) (pl e:Int) (hO:gJ G (iO b s i (aK b 2) (.slice A n c) (.slice B m d) pl e :: L) w0) :
  Calls prog 154 #[(aK b 2)] w0 (fV w0 G (iO b s i (aK b 2) (.slice A n c) (.slice B m d) pl e :: L) fun u G' L'=>L'=iO b s i (aK b 2) (.slice A n c) (.slice B m d) pl e :: L∧G'=G):=by
 refine jA (N:=20) (T:=[(0,_)]) func154 M ntmps154 M M hO ?_;intro a H;refine kP H (SR fun _ K1=>Rm M (Rk M (bQ Nt OZ 0 M M ?_)));clear H;intro a H;refine ajq O6 H wn M M ?_;clear H;intro a H;refine K1 _ _ ?_;clear K1;refine jw H M ?_ ?_
 ·intro h6
  exact absurd h6 (by simp)
 intro h6
 refine kP H (SR fun _ K2=>Rm M (Rk M (bQ Nt OZ 0 M M (Rm M ?_))));clear H;intro a H;refine azk O6 ZT H wn M M M ?_;clear H;intro a H;refine K2 _ _ ?_;clear K2;refine jw H M ?_ ?_
 ·intro h19
  exact absurd h19 Z
 intro h19
 refine iE ?_;refine (leave0 H results154 ?_).2;exact H.hp.gL ⟨M,M⟩
theorem azG (G:GH) (L:OL) (w0:World) (b:Nat) (s:ByteArray) (i:Int) (p:ah) (A:Option Addr) (n c:Nat) (B:Option Addr) (m d:Nat) (pl e:Int) (hp:p=.pointer none∨p=(aK b 2)) (hO:gJ G (iO b s i p (.slice A n c) (.slice B m d) pl e :: L) w0) :
  Calls prog 154 #[(aK b 2)] w0 (fV w0 G (iO b s i p (.slice A n c) (.slice B m d) pl e :: L) fun u G' L'=>L'=iO b s i (aK b 2) (.slice A n c) (.slice B m d) pl e :: L∧G'=G):=by
 rcases hp with rfl|rfl
 ·exact azE G L w0 b s i A n c B m d pl e hO
 exact azF G L w0 b s i A n c B m d pl e hO
theorem aks (G:GH) (Lp Lo:OL) (w0:World) (b:Nat) (s:ByteArray) (i:Int) (p v:ah) (B:Option Addr) (m d:Nat) (pl e:Int) (n:Nat) (xs:List ah) (c:Int) (hp:p=.pointer none∨p=(aK b 2)) (hO:gJ G (iO b s i p v (.slice B m d) pl e :: (Lp++Lo)) w0) (hrow:dw 5 1 v n xs Lo) (hn:n<=4294967296) :
  Calls prog 273 #[(aK b 2),.int .u8 c] w0 (fV w0 G (iO b s i p v (.slice B m d) pl e :: (Lp++Lo)) fun u G' L'=>∃ v' kF,L'=iO b s i (aK b 2) v' (.slice B m d) pl e :: (Lp++kF)∧dw 5 1 v' (n+1) (xs++[.int .u8 c]) kF∧G'=G):=by
 have hml:maxLen=9223372036854775807:=rfl;obtain ⟨A,c0,rfl,-,-⟩:=hrow.shape;obtain ⟨Lt,uy⟩:∃ x,x=Lp++Lo:=⟨_,M⟩;rw [<- uy] at hO |-;refine jA (N:=17) (T:=[(0,_),(1,_)]) func273 M ntmps273 M M hO ?_;intro a H;refine kP H (SR fun _ K1=>aj K1 M (SR fun _ K2=>Rm M ?_));clear H K1;intro a H;refine gM aoK (Li:=[]) (L:=iO b s i p _ (.slice B m d) pl e :: Lt) H wn M (azG _ _ _ b s i p A n c0 B m d pl e hp (Hp.owns (Li:=[]) H.hp)) M ?_;clear H;rintro v6 _ L6 a w ⟨rfl,rfl⟩ H9 H;dsimp only [List.nil_append] at H;refine K2 _ _ ?_;clear K2;refine kP H (SR fun _ K3=>Rm M (Rm M (Rk M (bQ J5 LY 0 M M (Rm M ?_)))));clear H;intro a H;refine iC I8 TV [_] [_] H wn M M M M M (by intro i q h;match i,h with|0,h=>exact h|n+1,h=>simp at h) M M ?_;clear H;intro b13 a w NK H;subst uy;have H:=St.un (A:=[_,_]) (B:=Lp) (C:=Lo) H;refine og (Li:=[_,_]++Lp) (Lo:=Lo) (news:=[.int .u8 c]) I8 TV M M H wn M M hrow M (H.hp.cB 0 M M) M O O M ?_;clear H;intro v14 akR a w Ol H;obtain ⟨Um,c14,rfl,-,-⟩:=Ol.shape;have H:=H.assoc;dsimp only [lca,bM] at H;refine kH H (Rk M (Rf J5 M ?_));clear H;intro a H;refine bC LY 1 (vs:=[_]) H wn M ?_;clear H;intro w H;refine K3 _ _ ?_;clear K3;exact kP H (SR fun _ K4=>aj K4 M (LR results273 M fun H=>H.hp.mW (L':=iO b s i _ _ _ pl e :: (Lp++akR)) (Dp _ _) ⟨_,_,M,Ol,M⟩))
theorem aAf (G:GH) (L:OL) (w0:World) (b:Nat) (s:ByteArray) (i:Int) (p:ah) (A:Option Addr) (n c:Nat) (B:Option Addr) (m d:Nat) (pl e:Int) (hO:gJ G (iO b s i p (.slice A n c) (.slice B m d) pl e :: L) w0) :
  Calls prog 279 #[(aK b 2)] w0 (fV w0 G (iO b s i p (.slice A n c) (.slice B m d) pl e :: L) fun u G' L'=>u=vi n∧L'=iO b s i p (.slice A n c) (.slice B m d) pl e :: L∧G'=G):=by
 refine jA (N:=8) (T:=[(0,_)]) func279 M ntmps279 M M hO ?_;intro a H;exact kP H (SR fun _ K1=>aj K1 M (SR fun _ K2=>Rm M (Rk M (bQ J5 LY 0 M M (Rl I8 M (aj K2 M (LR results279 M fun H=>H.hp.gL ⟨M,M,M⟩)))))))
theorem aAx (G:GH) (L:OL) (w0:World) (b:Nat) (s:ByteArray) (i:Int) (p:ah) (A:Option Addr) (n c:Nat) (B:Option Addr) (m d:Nat) (pl e:Int) (hO:gJ G (iO b s i p (.slice A n c) (.slice B m d) pl e :: L) w0) :
  Calls prog 280 #[(aK b 2)] w0 (fV w0 G (iO b s i p (.slice A n c) (.slice B m d) pl e :: L) fun u G' L'=>L'=iO b s i (.pointer none) (.slice none 0 0) (.slice B m d) pl e :: L∧G'=G):=by
 refine jA (N:=8) (T:=[(0,_)]) func280 M ntmps280 M M hO ?_;intro a H;refine kP H (SR fun _ K1=>Rm M (Rk M (Rf Nt M ?_)));clear H;intro a H;refine bC OZ 0 (vs:=[_]) H wn M ?_;clear H;intro w H;refine K1 _ _ ?_;clear K1;refine kP H (SC (Rm M (Rk M (Rf J5 M ?_))));clear H;intro a H;refine bC LY 0 (vs:=[_]) H wn M ?_;clear H;intro w H;refine aG ?_;refine (leave0 H results280 ?_).2;exact H.hp.gL ⟨M,M⟩
theorem aAA (G:GH) (Lp Lo:OL) (w0:World) (b:Nat) (s:ByteArray) (i:Int) (p v:ah) (B:Option Addr) (m d:Nat) (pl e:Int) (l:List UInt8) (hO:gJ G (iO b s i p v (.slice B m d) pl e :: (Lp++Lo)) w0) (hrow:dw 5 1 v l.length (Lib.byteCells l) Lo) (h0:l≠[]) :
  Calls prog 94 #[(aK b 2)] w0 (fV w0 G (iO b s i p v (.slice B m d) pl e :: (Lp++Lo)) fun u G' L'=>u=.string ⟨l.toArray⟩∧L'=iO b s i p v (.slice B m d) pl e :: Lp):=by
 rcases hrow.2 with ⟨-,h,-⟩|⟨b2,cap,cur,rfl,rfl,hc1,hc2,hc3,hc4⟩
 ·exact absurd (List.eq_nil_of_length_eq_zero h) h0
 have hl0:l.length≠0:=fun h=>h0 (List.eq_nil_of_length_eq_zero h);have hml:maxLen=9223372036854775807:=rfl;obtain ⟨Lt,uy⟩:∃ x,x=Lp++[(b2,Obj.cells cur 5 (0,0))]:=⟨_,M⟩;rw [<- uy] at hO |-;refine jA (N:=14) (T:=[(0,_)]) func94 M ntmps94 M M hO ?_;intro a H;refine kP H (SR fun _ K1=>aj K1 M (SQ fun _ K2=>?_));clear H K1;intro a H;have H:=H.sub (T':=[(0,_)]) ⟨M,aB⟩;refine dI hmx [[],[0],[0,1],[0,1,2],ra 0 4,[],[5],[5,6],[5,6,7],ra 5 4,ra 0 10,ra 0 11] [10,11] V [_,_,_,.slice (some ⟨b2,0,none⟩) l.length cap,(aK b2 0),_,_,_,.slice (some ⟨b2,0,none⟩) l.length cap,_] H (ay (Z0 M (Rm M)) (Z1 0 3 M (Rk M)) (Z1 1 4 M (Rf J5 M)) (Z1 2 5 M (Ro LY 0 M)) (ay ?_ (Z0 M (Rm M)) (Z1 5 8 M (Rk M)) (Z1 6 9 M (Rf J5 M)) (ay (Z1 7 10 M (Ro LY 0 M)) (Z1 8 11 M (Rl I8 M)) (bT M) (bT M) dB))) ?_
 ·refine gN 3 6 M M fun _ a w G1 hG HT H fin=>?_;refine azs H wn M O M ?_;exact jG
 clear H;intro a w G jC H hv;have H:=H.aN (hv 4 7 M M) M;have H:=H.aN (hv 9 12 M M) M;clear hv;subst uy;have H:=H.perm (List.Perm.cons _ oO);dsimp only [lca,bM] at H;refine azx (i:=1) l aAK amH h0 O H wn M M M (by rw [<- hc4,Nat.mul_one]) M ?_;clear H;intro fz a w H;dsimp only [List.set] at H;refine kH H (Ra M ?_);clear H;intro a H;refine aG ⟨M,?_⟩;refine K2 _ _ ?_;clear K2;refine lr H results94 M ?_;exact H.hp.mW (L':=iO b s i _ _ _ pl e :: Lp) (List.Sublist.cons_cons _ (Dp _ _)) ⟨M,M⟩
section
section
variable {N:Nat} {D:List Deferred} {w0:World} {F:Nat->Prop} {G0 G G1 G2:GH} {L L1 L2:OL} {T Xs:List (Nat × ah)}
variable {r:Option Nat} {P:Program} {Q:Exit->Act->World->Prop} {l:List Oper} {a a':Act} {w w':World}
theorem DX.perm {pr:Nat->ah->GH->Prop} {S:Nat->Bool} (h:DX N D w0 F G0 G L1 T l pr S a w) (hp:L1.Perm L2):DX N D w0 F G0 G L2 T l pr S a w:=by
 obtain ⟨G1,hG,HS,hv⟩:=h
 exact ⟨G1,hG,HS.perm hp,hv⟩
end
end
section
section
variable {N:Nat} {D:List Deferred} {w0:World} {F:Nat->Prop} {G0 G G1 G2:GH} {L L1 L2:OL} {T Xs:List (Nat × ah)}
variable {r:Option Nat} {P:Program} {Q:Exit->Act->World->Prop} {l:List Oper} {a a':Act} {w w':World}
theorem vQ {pr:Nat->ah->GH->Prop} {S:Nat->Bool} {i d:Nat} {v:ah} (hok:pR l T i=true) (kC:∀ i v (G G':GH),(∀ k o,G k=some o->G' k=some o)->pr i v G->pr i v G') (hi:dV l i=some d)
  (HT:St N D w0 F G0 G1 L T a w) (Hb:St N D w0 F G0 G1 L (Xs++full N a) a w) (hG:∀ k o,G k=some o->G1 k=some o) (hv:∀ j d,j≠i->S j=true->dV l j=some d->∃ v,a.tmps[d]?=some v∧pr j v G1)
  (hG2:∀ k o,G1 k=some o->G2 k=some o) (hp:pr i v G2) (H:St N D w0 F G0 G2 L1 ((d,v) :: (Xs++full N a)) a' w'):DX N D w0 F G0 G L1 T l pr (cO S i) a' w':=by
 have hok1:=hok
 rw [pR,hi] at hok1
 simp only [iL,Option.isNone_iff_eq_none,jE,vN] at hok1
 have hsame:∀ t,t≠d->a'.tmps[t]?=a.tmps[t]?:=by
  intro t ht
  by_cases hlt:t < N
  ·have h1:∃ u,lk (Xs++full N a) t=some u:=by
    rw [Sj]
    cases lk Xs t with
    | some u=>exact ⟨u,M⟩
    | none=>exact ⟨_,Sk a hlt⟩
   obtain ⟨u,hu⟩:=h1
   rw [Hb.get t u hu,H.get t u (by rw [wW (Ne.symm ht)];exact hu)]
  ·rw [Array.getElem?_eq_none (by rw [H.oP];omega),Array.getElem?_eq_none (by rw [Hb.oP];omega)]
 refine ⟨G2,fun k o hk=>hG2 k o (hG k o hk),⟨H.oP,fun t u ht=>?_,H.uU,H.hp⟩,fun j e hj he=>?_⟩
 ·rw [hsame t (fun e=>by rw [e,hok1.1] at ht;cases ht)]
  exact HT.get t u ht
 ·by_cases hji:j=i
  ·subst hji
   rw [hi] at he
   simp only [pO] at he
   subst he
   exact ⟨v,H.get d v (yg _ _ _),hp⟩
  ·have hSj:S j=true:=by unfold cO at hj;rwa [av hji] at hj
   obtain ⟨u,hu1,hu2⟩:=hv j e hji hSj he
   have hne:e≠d:=by
    intro e'
    subst e'
    have h2:=hok1.2 j (rX he)
    rw [qF (fun h=>hji h.symm),he] at h2
    simp at h2
   exact ⟨u,by rw [hsame e hne];exact hu1,kC j u _ _ hG2 hu2⟩
theorem ami {id:Nat} {κ:Type} (k0:κ) (hm:P.follows .mixedOrders=true) (bJ:List (List Nat)) (B:List Nat) (hk:xO l bJ=true) (hB:wC l bJ B=true) (m1 m2 m3:Nat) (agL:B.contains m1=false) (agM:B.contains m2=false) (X5:B.contains m3=false) (hne:Nat.beq m1 m2=false) (agR:Nat.beq m2 m3=false) (hne1:Nat.beq m1 m3=false) (h12:(bJ.getD m2 []).contains m1=true) (fT:(bJ.getD m3 []).contains m1=true) (h23:(bJ.getD m3 []).contains m2=true)
  (C L2:OL) (ob:Obj) (L3:Nat->κ->OL) (hC:∀ x,x∈C->x∈L) (hC2:∀ x,x∈C->x∈L2) (hC3:∀ b k x,x∈C->x∈L3 b k) (pr:Nat->κ->Nat->ah->GH->Prop)
  (Oi:∀ b b' k i v G,Nat.beq i m2=false->(bJ.getD i []).contains m2=false->pr b k i v G->pr b' k i v G)
  (auF:∀ b k k' i v G,Nat.beq i m3=false->(bJ.getD i []).contains m3=false->pr b k i v G->pr b k' i v G)
  (H:St N D w0 F G0 G L T a w)
  (hstep:allI (fun i o=>∀ b k L' S a w G1,(∀ x,x∈C->x∈L')->B.contains i=false->Nat.beq i m1=false->Nat.beq i m2=false->Nat.beq i m3=false->S i=false->(∀ j∈bJ.getD i [],S j=true)->(∀ k o,G k=some o->G1 k=some o)->St N D w0 F G0 G1 L' T a w->(∀ i d,S i=true->dV l i=some d->∃ v,a.tmps[d]?=some v∧pr b k i v G1) ->
   WL r P l.toArray (fun e a' w'=>e=.normal∧DX N D w0 F G0 G L' T l (pr b k) (cO S i) a' w') [o] a w) 0 l)
  (X6:∀ o b k S a w G1,l[m1]?=some o->S m1=false->(∀ j∈bJ.getD m1 [],S j=true)->(∀ k o,G k=some o->G1 k=some o)->St N D w0 F G0 G1 L T a w->(∀ i d,i≠m1->S i=true->dV l i=some d->∃ v,a.tmps[d]?=some v∧pr b k i v G1) ->
   WL r P l.toArray (fun e a' w'=>e=.normal∧DX N D w0 F G0 G L2 T l (pr b k) (cO S m1) a' w') [o] a w)
  (X7:∀ o k S a w G1,l[m2]?=some o->S m2=false->(∀ j∈bJ.getD m2 [],S j=true)->(∀ k o,G k=some o->G1 k=some o)->St N D w0 F G0 G1 L2 T a w->(∀ b i d,i≠m2->S i=true->dV l i=some d->∃ v,a.tmps[d]?=some v∧pr b k i v G1) ->
   WL r P l.toArray (fun e a' w'=>e=.normal∧∃ b,DX N D w0 F G0 G ((b,ob) :: L2) T l (pr b k) (cO S m2) a' w') [o] a w)
  (X8:∀ o b S a w G1,l[m3]?=some o->S m3=false->(∀ j∈bJ.getD m3 [],S j=true)->(∀ k o,G k=some o->G1 k=some o)->St N D w0 F G0 G1 ((b,ob) :: L2) T a w->(∀ k i d,i≠m3->S i=true->dV l i=some d->∃ v,a.tmps[d]?=some v∧pr b k i v G1) ->
   WL r P l.toArray (fun e a' w'=>e=.normal∧∃ k,DX N D w0 F G0 G (L3 b k) T l (pr b k) (cO S m3) a' w') [o] a w)
  (hend:∀ b k a w G1,(∀ k o,G k=some o->G1 k=some o)->St N D w0 F G0 G1 (L3 b k) T a w->(∀ i d,B.contains i=false->dV l i=some d->∃ v,a.tmps[d]?=some v∧pr b k i v G1)->WL r P l.toArray (fun e a w=>e=.normal∧Q .normal a w) (qb l B) a w)
  (D8:Nat.blt m2 l.length=true) (Ia:Nat.blt m3 l.length=true):WP r P (.region id l.toArray true) Q a w:=by
 have aii:m1≠m2:=fun e=>by subst e;rw [Nat.beq_refl] at hne;cases hne
 have aik:m2≠m3:=fun e=>by subst e;rw [Nat.beq_refl] at agR;cases agR
 have aij:m1≠m3:=fun e=>by subst e;rw [Nat.beq_refl] at hne1;cases hne1
 refine EM hm bJ B hk hB (fun S a w=>(S m2=true->S m1=true)∧(S m3=true->S m2=true)∧∃ b k L',L'=(bif S m3 then L3 b k else bif S m2 then (b,ob) :: L2 else bif S m1 then L2 else L)∧DX N D w0 F G0 G L' T l (pr b k) S a w)
  ⟨fun h=>h,fun h=>h,0,k0,L,M,G,fun _ _ h=>h,H.move H.hp.drew,fun _ _ h=>absurd (show false=true from h) Z⟩ ?_ ?_
 ·rintro i o S a w ho hb aM jm hdesc ⟨RP,auz,b,k,L',hL,G1,hG,HS,hv⟩
  have hsub:∀ x,x∈C->x∈L':=fun x hx=>by
   rw [hL]
   cases S m3 with
   | true=>exact hC3 b k x hx
   | false=>cases S m2 with
    | true=>exact gW _ (hC2 x hx)
    | false=>cases S m1 with
     | true=>exact hC2 x hx
     | false=>exact hC x hx
  have hno:∀ j,j < l.length->S j=true->(bJ.getD j []).contains i=false:=fun j hjl hj=>by
   cases hc:(bJ.getD j []).contains i with
   | false=>rfl
   | true =>
    have:=hdesc j hjl (by simpa using hc)
    rw [this] at hj;cases hj
  by_cases h1:i=m1
  ·subst h1
   have hS2:S m2=false:=hdesc m2 (Eq.mp Nat.blt_eq D8) (by simpa using h12)
   have AQ:S m3=false:=hdesc m3 (Eq.mp Nat.blt_eq Ia) (by simpa using fT)
   rw [AQ,hS2,aM] at hL
   subst hL
   have h:=X6 o b k S a w G1 ho aM jm hG HS fun j d hj hSj hd=>hv j d hSj hd
   have e2:cO S i m2=S m2:=av (fun e=>aii e.symm)
   have e3:cO S i m3=S m3:=av (fun e=>aij e.symm)
   refine nG (fun e a' w' ⟨he,hD⟩=>⟨he,fun _=>aD M,fun h=>(by rw [e3,AQ] at h;cases h),b,k,_,?_,hD⟩) h
   rw [show cO S i i=true from aD M,e2,e3,hS2,AQ]
   rfl
  ·by_cases h2:i=m2
   ·subst h2
    have hS1:S m1=true:=jm m1 (by simpa using h12)
    have AQ:S m3=false:=hdesc m3 (Eq.mp Nat.blt_eq Ia) (by simpa using h23)
    rw [AQ,aM,hS1] at hL
    subst hL
    have e1:cO S i m1=S m1:=av aii
    have e3:cO S i m3=S m3:=av (fun e=>aik e.symm)
    have h:=X7 o k S a w G1 ho aM jm hG HS fun b' j d hj hSj hd=>by
     obtain ⟨v,hv1,hv2⟩:=hv j d hSj hd
     exact ⟨v,hv1,Oi b b' k j v _ (qF hj) (hno j (rX hd) hSj) hv2⟩
    refine nG (fun e a' w' ⟨he,b',hD⟩=>⟨he,fun _=>by rw [e1];exact hS1,fun _=>aD M,b',k,_,?_,hD⟩) h
    rw [show cO S i i=true from aD M,e3,AQ];rfl
   ·by_cases h3:i=m3
    ·subst h3
     have hS1:S m1=true:=jm m1 (by simpa using fT)
     have hS2:S m2=true:=jm m2 (by simpa using h23)
     rw [aM,hS2] at hL
     subst hL
     have e1:cO S i m1=S m1:=av aij
     have e2:cO S i m2=S m2:=av aik
     have h:=X8 o b S a w G1 ho aM jm hG HS fun k' j d hj hSj hd=>by
      obtain ⟨v,hv1,hv2⟩:=hv j d hSj hd
      exact ⟨v,hv1,auF b k k' j v _ (qF hj) (hno j (rX hd) hSj) hv2⟩
     refine nG (fun e a' w' ⟨he,k',hD⟩=>⟨he,fun _=>by rw [e1];exact hS1,fun _=>by rw [e2];exact hS2,b,k',_,?_,hD⟩) h
     rw [show cO S i i=true from aD M];rfl
    ·have h:=yH hstep i o ho
     rw [gy] at h
     have e1:cO S i m1=S m1:=av (fun e=>h1 e.symm)
     have e2:cO S i m2=S m2:=av (fun e=>h2 e.symm)
     have e3:cO S i m3=S m3:=av (fun e=>h3 e.symm)
     refine nG (fun e a' w' ⟨he,hD⟩=>⟨he,by rw [e1,e2];exact RP,by rw [e2,e3];exact auz,b,k,L',?_,hD⟩) (h b k L' S a w G1 hsub hb (qF h1) (qF h2) (qF h3) aM jm hG HS hv)
     rw [e1,e2,e3];exact hL
 ·rintro S a w hall Ib ⟨_,_,b,k,L',hL,G1,hG,HS,hv⟩
  have hs3:S m3=true:=hall m3 (Eq.mp Nat.blt_eq Ia) X5
  rw [hs3] at hL
  subst hL
  exact hend b k a w G1 hG HS fun j d hb hd=>hv j d (hall j (rX hd) hb) hd
end
theorem aAI {z:Int} (h1:0<=z) (h2:z < 256):IntKind.u8.wrap z=z:=by
 simp only [IntKind.wrap,IntKind.bits,IntKind.signed,MH,ug,if_false]
 omega
section
variable {N:Nat} {D:List Deferred} {w0:World} {F:Nat->Prop} {G0 G:GH} {L:OL} {T:List (Nat × ah)}
variable {r:Option Nat} {P:Program} {ops:Array Oper} {Q:Exit->Act->World->Prop} {rest:List Oper} {a:Act} {w:World}
variable {d:Nat} {ty:TypeId} {pos:String} {aQ:Array Edge} {g:Option (Nat × Bool)}
theorem azv {x y:Operand} {t yt:TypeId} {p q:Int} (H:St N D w0 F G0 G L T a w) (hw:Region.wanted ⟨some d,.binOp .sub t x y yt,ty,pos,aQ,g⟩ (yielded ops a.tmps)=true) (hx:ev T x=some (.int .u8 p)) (hy:ev T y=some (.int .u8 q)) (h1:0<=p - q) (h2:p - q < 256) (hd:Nat.blt d N=true)
  (k:∀ a',St N D w0 F G0 G L ((d,.int .u8 (p - q)) :: T) a' w->WL r P ops Q rest a' w):WL r P ops Q (⟨some d,.binOp .sub t x y yt,ty,pos,aQ,g⟩ :: rest) a w :=
 fQ (v:=.int .u8 (p - q)) (w':=w) hw M (by simp [execOp,eqGuard,binOp,Op.intArith,H.ev hx,H.ev hy,dU,aAI h1 h2]) (k _ (H.put hd _ H.hp))
end
end
end Go.Proofs.YtdiflmikikiedaaGreat
