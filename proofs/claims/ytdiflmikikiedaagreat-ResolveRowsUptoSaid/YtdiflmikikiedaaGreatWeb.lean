/-
  What the claim stands on, part 2: Cp Run Rg Pos Pq Doc Dq Idx Plc Plr Hv Prk Dlf Prp Prq Prc Pst.
-/
import Derived.Test.YtdiflmikikiedaaGreatWea
import Derived.Test.YtdiflmikikiedaaGreatRows
namespace Go.Proofs.YtdiflmikikiedaaGreat
set_option linter.all false
open Go.Proofs.Tryz
open Go.RowKit
theorem lJ:prog.underlying 3=some (.int .i64):=by kernel_rfl
theorem MX:prog.underlying 5=some (.int .u8):=by kernel_rfl
theorem iB:prog.underlying 9=some .string:=by kernel_rfl
theorem aiV:∀ args w,(callFunc 268 args).run prog w=.ok (.enter 268 args) w:=enters func268 rfl (by kernel_rfl)
theorem aiK:∀ args w,(callFunc 249 args).run prog w=.ok (.enter 249 args) w:=enters func249 rfl (by kernel_rfl)
theorem aiA:∀ args w,(callFunc 225 args).run prog w=.ok (.enter 225 args) w:=enters func225 rfl (by kernel_rfl)
theorem KS:∀ args w,(callFunc 193 args).run prog w=.ok (.enter 193 args) w:=enters func193 rfl (by kernel_rfl)
def jh (b:Int):Int × Int × Int :=
  (if b=224 then 160 else if b=240 then 144 else 128,if b=237 then 159 else if b=244 then 143 else 191,
   if b < 128 then 1 else if b < 194∨244 < b then 0 else if b < 224 then 2 else if b < 240 then 3 else 4)
theorem Wu (b:Int):0≤(jh b).2.2∧(jh b).2.2≤4:=by
 simp only [jh];split
 ·omega
 split
 ·omega
 split
 ·omega
 split <;> omega
theorem ase (G:GH) (w0:World) (hG:Hold G w0) (b:Int) :
  Calls prog 268 #[.int .u8 b] w0 (bH w0 G fun v G'=>v=.tuple #[.int .u8 (jh b).1,.int .u8 (jh b).2.1,.int .i64 (jh b).2.2]∧G=G'):=by
 refine eN [(0,_)] func268 rfl ntmps268 rfl rfl hG ?_;intro a H;refine kP H (SR fun _ K1=>Ra rfl (Ra rfl (ak K1 rfl (SR fun _ K2=>Ra rfl (ak K2 rfl (SQ fun _ K3=>SB (SR fun _ K4=>Rm rfl (Rc rfl (ak K4 rfl (Cd rfl ?_ ?_)))))))))) <;> clear H K1 K2 K4
 ·intro h5 a H
  try have p5:=dT h5
  refine kP H (SC (bC K3 rfl (SQ fun _ K5=>SR fun _ K6=>Rm rfl (Kz K6 (SB (SR fun _ K7=>Rc rfl (ak K7 rfl (Cd rfl ?_ ?_)))))))) <;> clear H K3 K6 K7
  ·intro h22 a H
   try have iZ:=dT h22
   refine kP H (SC (bC K5 rfl (SR fun _ K8=>Rm rfl (Rm rfl (Rm rfl (Ra rfl (Ra rfl (ak K8 rfl ?_))))))));clear H K5 K8;intro a H;refine bS ?_;refine (eZ H results268 (.cons (aV H rfl) (.cons (aV H rfl) (.cons (aV H rfl) .nil))) ?_).1
   first|(exfalso;omega)|exact H.rt ⟨by simp only [jh];repeat (first|rw [au (by omega)]|rw [ah (by omega)]),rfl⟩
  intro h22 a H
  try have iZ:=dF h22
  refine kP H (SR fun _ K9=>Rc rfl (ak K9 rfl (Cd rfl ?_ ?_))) <;> clear H K9
  ·intro fB a H
   try have mX:=dT fB
   refine kP H (SC (bC K5 rfl (SR fun _ aW=>Rm rfl (Rm rfl (Rm rfl (Ra rfl (Ra rfl (ak aW rfl ?_))))))));clear H K5 aW;intro a H;refine bS ?_;refine (eZ H results268 (.cons (aV H rfl) (.cons (aV H rfl) (.cons (aV H rfl) .nil))) ?_).1
   first|(exfalso;omega)|exact H.rt ⟨by simp only [jh];repeat (first|rw [au (by omega)]|rw [ah (by omega)]),rfl⟩
  intro fB a H
  try have mX:=dF fB
  refine kP H (SR fun _ bO=>Rc rfl (ak bO rfl (Cd rfl ?_ ?_))) <;> clear H bO
  ·intro jE a H
   try have p26:=dT jE
   refine kP H (SC (bC K5 rfl (SR fun _ bW=>Rm rfl (Rm rfl (Rm rfl (Ra rfl (Ra rfl (ak bW rfl ?_))))))));clear H K5 bW;intro a H;refine bS ?_;refine (eZ H results268 (.cons (aV H rfl) (.cons (aV H rfl) (.cons (aV H rfl) .nil))) ?_).1
   first|(exfalso;omega)|exact H.rt ⟨by simp only [jh];repeat (first|rw [au (by omega)]|rw [ah (by omega)]),rfl⟩
  intro jE a H
  try have p26:=dF jE
  refine kP H (SR fun _ cB=>Rc rfl (ak cB rfl (Cd rfl ?_ ?_))) <;> clear H cB
  ·intro fQ a H
   try have p28:=dT fQ
   refine kP H (SC (bC K5 rfl (SR fun _ dw=>Rm rfl (Rm rfl (Rm rfl (Ra rfl (Ra rfl (ak dw rfl ?_))))))));clear H K5 dw;intro a H;refine bS ?_;refine (eZ H results268 (.cons (aV H rfl) (.cons (aV H rfl) (.cons (aV H rfl) .nil))) ?_).1
   first|(exfalso;omega)|exact H.rt ⟨by simp only [jh];repeat (first|rw [au (by omega)]|rw [ah (by omega)]),rfl⟩
  intro fQ a H
  try have p28:=dF fQ
  refine kP H (Kc K5 (SR fun _ dR=>Rm rfl (Rm rfl (Rm rfl (Ra rfl (Ra rfl (ak dR rfl ?_)))))));clear H K5 dR;intro a H;refine bS ?_;refine (eZ H results268 (.cons (aV H rfl) (.cons (aV H rfl) (.cons (aV H rfl) .nil))) ?_).1
  first|(exfalso;omega)|exact H.rt ⟨by simp only [jh];repeat (first|rw [au (by omega)]|rw [ah (by omega)]),rfl⟩
 intro h5 a H
 try have p5:=dF h5
 refine kP H (SR fun _ dW=>Rm rfl (Rc rfl (Rm rfl (Sp 11 rfl ?_ ?_)))) <;> clear H
 ·intro h11 a H
  try have rM:=dT h11
  refine kH H (aP h11 rfl (Pt h11 rfl (ak dW rfl (Ct rfl rfl (SC (bC K3 rfl (SQ fun _ dU=>SR fun _ eG=>Rm rfl (Kz eG (SB (SR fun _ gu=>Rc rfl (ak gu rfl (Cd rfl ?_ ?_)))))))))))) <;> clear H dW K3 eG gu
  ·intro h22 a H
   try have iZ:=dT h22
   refine kP H (SC (bC dU rfl (SR fun _ fC=>Rm rfl (Rm rfl (Rm rfl (Ra rfl (Ra rfl (ak fC rfl ?_))))))));clear H dU fC;intro a H;refine bS ?_;refine (eZ H results268 (.cons (aV H rfl) (.cons (aV H rfl) (.cons (aV H rfl) .nil))) ?_).1
   first|(exfalso;omega)|exact H.rt ⟨by simp only [jh];repeat (first|rw [au (by omega)]|rw [ah (by omega)]),rfl⟩
  intro h22 a H
  try have iZ:=dF h22
  refine kP H (SR fun _ gH=>Rc rfl (ak gH rfl (Cd rfl ?_ ?_))) <;> clear H gH
  ·intro fB a H
   try have mX:=dT fB
   refine kP H (SC (bC dU rfl (SR fun _ iC=>Rm rfl (Rm rfl (Rm rfl (Ra rfl (Ra rfl (ak iC rfl ?_))))))));clear H dU iC;intro a H;refine bS ?_;refine (eZ H results268 (.cons (aV H rfl) (.cons (aV H rfl) (.cons (aV H rfl) .nil))) ?_).1
   first|(exfalso;omega)|exact H.rt ⟨by simp only [jh];repeat (first|rw [au (by omega)]|rw [ah (by omega)]),rfl⟩
  intro fB a H
  try have mX:=dF fB
  refine kP H (SR fun _ jT=>Rc rfl (ak jT rfl (Cd rfl ?_ ?_))) <;> clear H jT
  ·intro jE a H
   try have p26:=dT jE
   refine kP H (SC (bC dU rfl (SR fun _ jN=>Rm rfl (Rm rfl (Rm rfl (Ra rfl (Ra rfl (ak jN rfl ?_))))))));clear H dU jN;intro a H;refine bS ?_;refine (eZ H results268 (.cons (aV H rfl) (.cons (aV H rfl) (.cons (aV H rfl) .nil))) ?_).1
   first|(exfalso;omega)|exact H.rt ⟨by simp only [jh];repeat (first|rw [au (by omega)]|rw [ah (by omega)]),rfl⟩
  intro jE a H
  try have p26:=dF jE
  refine kP H (SR fun _ jO=>Rc rfl (ak jO rfl (Cd rfl ?_ ?_))) <;> clear H jO
  ·intro fQ a H
   try have p28:=dT fQ
   refine kP H (SC (bC dU rfl (SR fun _ kU=>Rm rfl (Rm rfl (Rm rfl (Ra rfl (Ra rfl (ak kU rfl ?_))))))));clear H dU kU;intro a H;refine bS ?_;refine (eZ H results268 (.cons (aV H rfl) (.cons (aV H rfl) (.cons (aV H rfl) .nil))) ?_).1
   first|(exfalso;omega)|exact H.rt ⟨by simp only [jh];repeat (first|rw [au (by omega)]|rw [ah (by omega)]),rfl⟩
  intro fQ a H
  try have p28:=dF fQ
  refine kP H (Kc dU (SR fun _ lC=>Rm rfl (Rm rfl (Rm rfl (Ra rfl (Ra rfl (ak lC rfl ?_)))))));clear H dU lC;intro a H;refine bS ?_;refine (eZ H results268 (.cons (aV H rfl) (.cons (aV H rfl) (.cons (aV H rfl) .nil))) ?_).1
  first|(exfalso;omega)|exact H.rt ⟨by simp only [jh];repeat (first|rw [au (by omega)]|rw [ah (by omega)]),rfl⟩
 intro h11 a H
 try have rM:=dF h11
 refine kH H (YM h11 rfl (YC h11 rfl (Pf h11 rfl (ak dW rfl (Cd rfl ?_ ?_))))) <;> clear H dW
 ·intro h8 a H
  try have p8:=dT h8
  refine kP H (SC (bC K3 rfl (SQ fun _ jP=>SR fun _ nM=>Rm rfl (Kz nM (SB (SR fun _ nZ=>Rc rfl (ak nZ rfl (Cd rfl ?_ ?_)))))))) <;> clear H K3 nM nZ
  ·intro h22 a H
   try have iZ:=dT h22
   refine kP H (SC (bC jP rfl (SR fun _ oF=>Rm rfl (Rm rfl (Rm rfl (Ra rfl (Ra rfl (ak oF rfl ?_))))))));clear H jP oF;intro a H;refine bS ?_;refine (eZ H results268 (.cons (aV H rfl) (.cons (aV H rfl) (.cons (aV H rfl) .nil))) ?_).1
   first|(exfalso;omega)|exact H.rt ⟨by simp only [jh];repeat (first|rw [au (by omega)]|rw [ah (by omega)]),rfl⟩
  intro h22 a H
  try have iZ:=dF h22
  refine kP H (SR fun _ oZ=>Rc rfl (ak oZ rfl (Cd rfl ?_ ?_))) <;> clear H oZ
  ·intro fB a H
   try have mX:=dT fB
   refine kP H (SC (bC jP rfl (SR fun _ oG=>Rm rfl (Rm rfl (Rm rfl (Ra rfl (Ra rfl (ak oG rfl ?_))))))));clear H jP oG;intro a H;refine bS ?_;refine (eZ H results268 (.cons (aV H rfl) (.cons (aV H rfl) (.cons (aV H rfl) .nil))) ?_).1
   first|(exfalso;omega)|exact H.rt ⟨by simp only [jh];repeat (first|rw [au (by omega)]|rw [ah (by omega)]),rfl⟩
  intro fB a H
  try have mX:=dF fB
  refine kP H (SR fun _ pq=>Rc rfl (ak pq rfl (Cd rfl ?_ ?_))) <;> clear H pq
  ·intro jE a H
   try have p26:=dT jE
   refine kP H (SC (bC jP rfl (SR fun _ rU=>Rm rfl (Rm rfl (Rm rfl (Ra rfl (Ra rfl (ak rU rfl ?_))))))));clear H jP rU;intro a H;refine bS ?_;refine (eZ H results268 (.cons (aV H rfl) (.cons (aV H rfl) (.cons (aV H rfl) .nil))) ?_).1
   first|(exfalso;omega)|exact H.rt ⟨by simp only [jh];repeat (first|rw [au (by omega)]|rw [ah (by omega)]),rfl⟩
  intro jE a H
  try have p26:=dF jE
  refine kP H (SR fun _ rV=>Rc rfl (ak rV rfl (Cd rfl ?_ ?_))) <;> clear H rV
  ·intro fQ a H
   try have p28:=dT fQ
   refine kP H (SC (bC jP rfl (SR fun _ wS=>Rm rfl (Rm rfl (Rm rfl (Ra rfl (Ra rfl (ak wS rfl ?_))))))));clear H jP wS;intro a H;refine bS ?_;refine (eZ H results268 (.cons (aV H rfl) (.cons (aV H rfl) (.cons (aV H rfl) .nil))) ?_).1
   first|(exfalso;omega)|exact H.rt ⟨by simp only [jh];repeat (first|rw [au (by omega)]|rw [ah (by omega)]),rfl⟩
  intro fQ a H
  try have p28:=dF fQ
  refine kP H (Kc jP (SR fun _ Bv=>Rm rfl (Rm rfl (Rm rfl (Ra rfl (Ra rfl (ak Bv rfl ?_)))))));clear H jP Bv;intro a H;refine bS ?_;refine (eZ H results268 (.cons (aV H rfl) (.cons (aV H rfl) (.cons (aV H rfl) .nil))) ?_).1
  first|(exfalso;omega)|exact H.rt ⟨by simp only [jh];repeat (first|rw [au (by omega)]|rw [ah (by omega)]),rfl⟩
 intro h8 a H
 try have p8:=dF h8
 refine kP H (SR fun _ Bw=>Rm rfl (Rc rfl (ak Bw rfl (Cd rfl ?_ ?_)))) <;> clear H Bw
 ·intro iD a H
  try have pR:=dT iD
  refine kP H (SC (bC K3 rfl (SQ fun _ qb=>SR fun _ CP=>Rm rfl (Kz CP (SB (SR fun _ Bz=>Rc rfl (ak Bz rfl (Cd rfl ?_ ?_)))))))) <;> clear H K3 CP Bz
  ·intro h22 a H
   try have iZ:=dT h22
   refine kP H (SC (bC qb rfl (SR fun _ FB=>Rm rfl (Rm rfl (Rm rfl (Ra rfl (Ra rfl (ak FB rfl ?_))))))));clear H qb FB;intro a H;refine bS ?_;refine (eZ H results268 (.cons (aV H rfl) (.cons (aV H rfl) (.cons (aV H rfl) .nil))) ?_).1
   first|(exfalso;omega)|exact H.rt ⟨by simp only [jh];repeat (first|rw [au (by omega)]|rw [ah (by omega)]),rfl⟩
  intro h22 a H
  try have iZ:=dF h22
  refine kP H (SR fun _ Ec=>Rc rfl (ak Ec rfl (Cd rfl ?_ ?_))) <;> clear H Ec
  ·intro fB a H
   try have mX:=dT fB
   refine kP H (SC (bC qb rfl (SR fun _ FC=>Rm rfl (Rm rfl (Rm rfl (Ra rfl (Ra rfl (ak FC rfl ?_))))))));clear H qb FC;intro a H;refine bS ?_;refine (eZ H results268 (.cons (aV H rfl) (.cons (aV H rfl) (.cons (aV H rfl) .nil))) ?_).1
   first|(exfalso;omega)|exact H.rt ⟨by simp only [jh];repeat (first|rw [au (by omega)]|rw [ah (by omega)]),rfl⟩
  intro fB a H
  try have mX:=dF fB
  refine kP H (SR fun _ Ed=>Rc rfl (ak Ed rfl (Cd rfl ?_ ?_))) <;> clear H Ed
  ·intro jE a H
   try have p26:=dT jE
   refine kP H (SC (bC qb rfl (SR fun _ Ki=>Rm rfl (Rm rfl (Rm rfl (Ra rfl (Ra rfl (ak Ki rfl ?_))))))));clear H qb Ki;intro a H;refine bS ?_;refine (eZ H results268 (.cons (aV H rfl) (.cons (aV H rfl) (.cons (aV H rfl) .nil))) ?_).1
   first|(exfalso;omega)|exact H.rt ⟨by simp only [jh];repeat (first|rw [au (by omega)]|rw [ah (by omega)]),rfl⟩
  intro jE a H
  try have p26:=dF jE
  refine kP H (SR fun _ Ns=>Rc rfl (ak Ns rfl (Cd rfl ?_ ?_))) <;> clear H Ns
  ·intro fQ a H
   try have p28:=dT fQ
   refine kP H (SC (bC qb rfl (SR fun _ Nt=>Rm rfl (Rm rfl (Rm rfl (Ra rfl (Ra rfl (ak Nt rfl ?_))))))));clear H qb Nt;intro a H;refine bS ?_;refine (eZ H results268 (.cons (aV H rfl) (.cons (aV H rfl) (.cons (aV H rfl) .nil))) ?_).1
   first|(exfalso;omega)|exact H.rt ⟨by simp only [jh];repeat (first|rw [au (by omega)]|rw [ah (by omega)]),rfl⟩
  intro fQ a H
  try have p28:=dF fQ
  refine kP H (Kc qb (SR fun _ Xl=>Rm rfl (Rm rfl (Rm rfl (Ra rfl (Ra rfl (ak Xl rfl ?_)))))));clear H qb Xl;intro a H;refine bS ?_;refine (eZ H results268 (.cons (aV H rfl) (.cons (aV H rfl) (.cons (aV H rfl) .nil))) ?_).1
  first|(exfalso;omega)|exact H.rt ⟨by simp only [jh];repeat (first|rw [au (by omega)]|rw [ah (by omega)]),rfl⟩
 intro iD a H
 try have pR:=dF iD
 refine kP H (SR fun _ Xm=>Rm rfl (Rc rfl (ak Xm rfl (Cd rfl ?_ ?_)))) <;> clear H Xm
 ·intro h18 a H
  try have tL:=dT h18
  refine kP H (SC (bC K3 rfl (SQ fun _ BA=>SR fun _ Xn=>Rm rfl (Kz Xn (SB (SR fun _ Xo=>Rc rfl (ak Xo rfl (Cd rfl ?_ ?_)))))))) <;> clear H K3 Xn Xo
  ·intro h22 a H
   try have iZ:=dT h22
   refine kP H (SC (bC BA rfl (SR fun _ Xp=>Rm rfl (Rm rfl (Rm rfl (Ra rfl (Ra rfl (ak Xp rfl ?_))))))));clear H BA Xp;intro a H;refine bS ?_;refine (eZ H results268 (.cons (aV H rfl) (.cons (aV H rfl) (.cons (aV H rfl) .nil))) ?_).1
   first|(exfalso;omega)|exact H.rt ⟨by simp only [jh];repeat (first|rw [au (by omega)]|rw [ah (by omega)]),rfl⟩
  intro h22 a H
  try have iZ:=dF h22
  refine kP H (SR fun _ Xq=>Rc rfl (ak Xq rfl (Cd rfl ?_ ?_))) <;> clear H Xq
  ·intro fB a H
   try have mX:=dT fB
   refine kP H (SC (bC BA rfl (SR fun _ Xr=>Rm rfl (Rm rfl (Rm rfl (Ra rfl (Ra rfl (ak Xr rfl ?_))))))));clear H BA Xr;intro a H;refine bS ?_;refine (eZ H results268 (.cons (aV H rfl) (.cons (aV H rfl) (.cons (aV H rfl) .nil))) ?_).1
   first|(exfalso;omega)|exact H.rt ⟨by simp only [jh];repeat (first|rw [au (by omega)]|rw [ah (by omega)]),rfl⟩
  intro fB a H
  try have mX:=dF fB
  refine kP H (SR fun _ Xt=>Rc rfl (ak Xt rfl (Cd rfl ?_ ?_))) <;> clear H Xt
  ·intro jE a H
   try have p26:=dT jE
   refine kP H (SC (bC BA rfl (SR fun _ Xu=>Rm rfl (Rm rfl (Rm rfl (Ra rfl (Ra rfl (ak Xu rfl ?_))))))));clear H BA Xu;intro a H;refine bS ?_;refine (eZ H results268 (.cons (aV H rfl) (.cons (aV H rfl) (.cons (aV H rfl) .nil))) ?_).1
   first|(exfalso;omega)|exact H.rt ⟨by simp only [jh];repeat (first|rw [au (by omega)]|rw [ah (by omega)]),rfl⟩
  intro jE a H
  try have p26:=dF jE
  refine kP H (SR fun _ Xv=>Rc rfl (ak Xv rfl (Cd rfl ?_ ?_))) <;> clear H Xv
  ·intro fQ a H
   try have p28:=dT fQ
   refine kP H (SC (bC BA rfl (SR fun _ Xw=>Rm rfl (Rm rfl (Rm rfl (Ra rfl (Ra rfl (ak Xw rfl ?_))))))));clear H BA Xw;intro a H;refine bS ?_;refine (eZ H results268 (.cons (aV H rfl) (.cons (aV H rfl) (.cons (aV H rfl) .nil))) ?_).1
   first|(exfalso;omega)|exact H.rt ⟨by simp only [jh];repeat (first|rw [au (by omega)]|rw [ah (by omega)]),rfl⟩
  intro fQ a H
  try have p28:=dF fQ
  refine kP H (Kc BA (SR fun _ Xx=>Rm rfl (Rm rfl (Rm rfl (Ra rfl (Ra rfl (ak Xx rfl ?_)))))));clear H BA Xx;intro a H;refine bS ?_;refine (eZ H results268 (.cons (aV H rfl) (.cons (aV H rfl) (.cons (aV H rfl) .nil))) ?_).1
  first|(exfalso;omega)|exact H.rt ⟨by simp only [jh];repeat (first|rw [au (by omega)]|rw [ah (by omega)]),rfl⟩
 intro h18 a H
 try have tL:=dF h18
 refine kP H (SC (bC K3 rfl (SQ fun _ BD=>SR fun _ Xy=>Rm rfl (Kz Xy (SB (SR fun _ Xz=>Rc rfl (ak Xz rfl (Cd rfl ?_ ?_)))))))) <;> clear H K3 Xy Xz
 ·intro h22 a H
  try have iZ:=dT h22
  refine kP H (SC (bC BD rfl (SR fun _ XA=>Rm rfl (Rm rfl (Rm rfl (Ra rfl (Ra rfl (ak XA rfl ?_))))))));clear H BD XA;intro a H;refine bS ?_;refine (eZ H results268 (.cons (aV H rfl) (.cons (aV H rfl) (.cons (aV H rfl) .nil))) ?_).1
  first|(exfalso;omega)|exact H.rt ⟨by simp only [jh];repeat (first|rw [au (by omega)]|rw [ah (by omega)]),rfl⟩
 intro h22 a H
 try have iZ:=dF h22
 refine kP H (SR fun _ XB=>Rc rfl (ak XB rfl (Cd rfl ?_ ?_))) <;> clear H XB
 ·intro fB a H
  try have mX:=dT fB
  refine kP H (SC (bC BD rfl (SR fun _ XC=>Rm rfl (Rm rfl (Rm rfl (Ra rfl (Ra rfl (ak XC rfl ?_))))))));clear H BD XC;intro a H;refine bS ?_;refine (eZ H results268 (.cons (aV H rfl) (.cons (aV H rfl) (.cons (aV H rfl) .nil))) ?_).1
  first|(exfalso;omega)|exact H.rt ⟨by simp only [jh];repeat (first|rw [au (by omega)]|rw [ah (by omega)]),rfl⟩
 intro fB a H
 try have mX:=dF fB
 refine kP H (SR fun _ XD=>Rc rfl (ak XD rfl (Cd rfl ?_ ?_))) <;> clear H XD
 ·intro jE a H
  try have p26:=dT jE
  refine kP H (SC (bC BD rfl (SR fun _ XE=>Rm rfl (Rm rfl (Rm rfl (Ra rfl (Ra rfl (ak XE rfl ?_))))))));clear H BD XE;intro a H;refine bS ?_;refine (eZ H results268 (.cons (aV H rfl) (.cons (aV H rfl) (.cons (aV H rfl) .nil))) ?_).1
  first|(exfalso;omega)|exact H.rt ⟨by simp only [jh];repeat (first|rw [au (by omega)]|rw [ah (by omega)]),rfl⟩
 intro jE a H
 try have p26:=dF jE
 refine kP H (SR fun _ XF=>Rc rfl (ak XF rfl (Cd rfl ?_ ?_))) <;> clear H XF
 ·intro fQ a H
  try have p28:=dT fQ
  refine kP H (SC (bC BD rfl (SR fun _ XG=>Rm rfl (Rm rfl (Rm rfl (Ra rfl (Ra rfl (ak XG rfl ?_))))))));clear H BD XG;intro a H;refine bS ?_;refine (eZ H results268 (.cons (aV H rfl) (.cons (aV H rfl) (.cons (aV H rfl) .nil))) ?_).1
  first|(exfalso;omega)|exact H.rt ⟨by simp only [jh];repeat (first|rw [au (by omega)]|rw [ah (by omega)]),rfl⟩
 intro fQ a H
 try have p28:=dF fQ
 refine kP H (Kc BD (SR fun _ XH=>Rm rfl (Rm rfl (Rm rfl (Ra rfl (Ra rfl (ak XH rfl ?_)))))));clear H BD XH;intro a H;refine bS ?_;refine (eZ H results268 (.cons (aV H rfl) (.cons (aV H rfl) (.cons (aV H rfl) .nil))) ?_).1
 first|(exfalso;omega)|exact H.rt ⟨by simp only [jh];repeat (first|rw [au (by omega)]|rw [ah (by omega)]),rfl⟩
def gN (s:ByteArray) (i:Nat):Int:=if h:i < s.size then (s[i].toNat:Int) else 0
theorem lV {s:ByteArray} {i:Nat} (h:i < s.size):gN s i=(s[i].toNat:Int):=by simp [gN,h]
def qG (s:ByteArray) (at_ n:Nat):(fuel k:Nat)→(low high p:Int)→Int × Nat × Bool
 | 0,k,_,_,p=>(p,k,true)
 | f+1,k,low,high,p =>
  if n≤k then (p,k,true)
  else if s.size≤at_+k∨gN s (at_+k) < low∨high < gN s (at_+k) then (0,k,false)
  else qG s at_ n f (k+1) 128 191 (wX .or .i64 (IntKind.i64.wrap (p*2 ^ 6)) (wX .and .i64 (gN s (at_+k)) 63))
def lF (s:ByteArray) (at_:Nat):Int × Nat × Bool :=
 let b:=gN s at_
 let t:=jh b
 if t.2.2=0 then (0,0,false) else if t.2.2=1 then (b,1,true)
 else qG s at_ t.2.2.toNat 4 1 t.1 t.2.1 (wX .and .i64 b ((127:Int).fdiv (2 ^ t.2.2.toNat)))
theorem WA (n:UInt8):IntKind.i64.wrap (n.toNat:Int)=(n.toNat:Int):=GY (by omega) (by have:=n.toNat_lt;omega)
set_option maxHeartbeats 1000000 in
theorem agL (G:GH) (w0:World) (hG:Hold G w0) (s:ByteArray) (i:Nat) (hi:i < s.size) (hs:s.size < 4611686018427387904) :
  Calls prog 249 #[.string s,.int .i64 i] w0 (bH w0 G fun v G'=>v=.tuple #[.int .i64 (lF s i).1,.int .i64 (lF s i).2.1,.bool (lF s i).2.2]∧G=G'):=by
 have hb:=lV hi;obtain ⟨n,hn⟩:∃ n:Nat,(jh (gN s i)).2.2=(n:Int):=⟨(jh (gN s i)).2.2.toNat,by have:=Wu (gN s i);omega⟩
 have hn4:n≤4:=by have:=Wu (gN s i);omega
 refine eN [(0,_),(1,_)] func249 rfl ntmps249 rfl rfl hG ?_;intro a H;refine kP H (SR fun _ K1=>Ra rfl (Ra rfl (ak K1 rfl (SR fun _ K2=>Rm rfl (Rm rfl ?_)))));clear H K1;intro a H;refine qx _ iB H wn rfl rfl rfl (by first|assumption|omega) rfl ?_;clear H;intro a H;refine kH H (Ra rfl ?_);clear H;intro a H;rw [← hb] at H;refine K2 _ _ ?_;clear K2;refine kP H (SR fun _ K3=>Rm rfl ?_);clear H;intro a H;refine s_call aiV H wn rfl (ase _ _ H.ro _) rfl ?_;clear H;rintro v16 _ a w ⟨rfl,rfl⟩ - H;refine kH H (Rm rfl ?_);clear H;intro a H;(iterate 3 refine lS H wn rfl rfl rfl ?_;clear H;intro a H);refine kH H (Ra rfl (Ra rfl (ak K3 rfl (SQ fun _ K4=>SR fun _ K5=>Rm rfl (Kz K5 (SB (SR fun _ K6=>Rc rfl (ak K6 rfl (Cd rfl ?_ ?_))))))))) <;> clear H K3 K5 K6
 ·intro h21 a H
  try have DK:=dT h21
  refine kP H (SR fun _ K7=>Ra rfl (Ra rfl (ak K7 rfl ?_)));clear H K7;intro a H;refine bS ?_;skip;refine (eZ H results249 (.cons (aV H rfl) (.cons (aV H rfl) (.cons (aV H rfl) .nil))) ?_).1;exact H.rt ⟨by simp [lF,DK],rfl⟩
 intro h21 a H
 try have DK:=dF h21
 refine kP H (SR fun _ K8=>Rc rfl (ak K8 rfl (Cd rfl ?_ ?_))) <;> clear H K8
 ·intro h23 a H
  try have vJ:=dT h23
  refine kP H (SR fun _ K9=>Rm rfl ?_);clear H;intro a H;refine Cr (gN s i) lJ MX H wn rfl (by rw [hb];exact WA _) rfl ?_;clear H;intro a H;refine kH H (Ra rfl (Ra rfl (ak K9 rfl ?_)));clear H K9;intro a H;refine bS ?_;skip;refine (eZ H results249 (.cons (aV H rfl) (.cons (aV H rfl) (.cons (aV H rfl) .nil))) ?_).1;exact H.rt ⟨by simp [lF,DK,vJ],rfl⟩
 intro h23 a H
 try have vJ:=dF h23
 refine kP H (Kc K4 (SR fun _ aW=>Rm rfl ?_));clear H K4;intro a H;refine Cr (gN s i) lJ MX H wn rfl (by rw [hb];exact WA _) rfl ?_;clear H;intro a H;refine kH H (Rm rfl ?_);clear H;intro a H;refine Qd n H wn rfl rfl (by rw [hn]) (by show n≤64;omega) rfl ?_;clear H;intro a H;refine P8 rfl H wn rfl rfl rfl ?_;clear H;intro a H;refine kH H (ak aW rfl (SQ fun _ bO=>SR fun _ bW=>ak bW rfl (SB ?_)));clear H aW bW;intro a H;skip;refine fH (ι:=Nat × Int × Int × Int) (Tc:=[(0,_),(1,_),(10,_)]) (Lc:=[]) (fun gh=>[(4,.int .i64 gh.2.2.2),(5,.int .i64 (gh.1:Int)),(8,.int .u8 gh.2.1),(9,.int .u8 gh.2.2.1)]) (fun gh=>[]) (fun gh=>G) (fun gh=>gh.1≤4∧lF s i=qG s i n (5 - gh.1) gh.1 gh.2.1 gh.2.2.1 gh.2.2.2) (fun gh=>5 - gh.1) ((1,_,_,_)) (by exact (H).sub ⟨rfl,rfl,rfl,rfl,rfl,rfl,rfl,aC⟩) ?_ ?_
 ·refine ⟨by omega,?_⟩;simp only [lF,hn];rw [ah (by omega),ah (by omega)];rfl
 clear H;rintro ⟨k,low,high,p⟩ a w hI H;dsimp only at hI H;obtain ⟨hk,hdec⟩:=hI;dsimp only [lca,bq] at H;refine kP H (SQ fun _ cB=>SR fun _ dw=>Rm rfl (Rm rfl (Rc rfl (Kz dw (Cd rfl ?_ ?_))))) <;> clear H dw
 ·intro fE a H
  try have p34:=dT fE
  refine kP H (Kc cB (SQ fun _ dR=>SB (SQ fun _ dW=>SR fun _ dU=>Rm rfl (Rm rfl (Rd rfl (Rm rfl (Rv iB rfl (Rc rfl (Rm rfl (Sp 43 rfl ?_ ?_)))))))))) <;> clear H cB
  ·intro h43 a H
   try have p43:=dT h43
   refine kH H (bD h43 rfl (aP h43 rfl (aP h43 rfl (Pt h43 rfl (Rm rfl (bD rfl rfl (aP rfl rfl (aP rfl rfl (Pt rfl rfl (Kz dU (Ct rfl rfl (SR fun _ eG=>Rm rfl (Ra rfl (Ra rfl (ak eG rfl ?_)))))))))))))));clear H dU eG;intro a H;refine bS ?_
   have hfin:lF s i=(if n≤k then (p,k,true) else (0,k,false)):=by
    rw [hdec];have e:5 - k=(4 - k)+1:=by omega
    rw [e,qG]
    by_cases hk2:n≤k
    ·rw [au hk2,au hk2]
    rw [ah hk2,ah hk2,au (by first|omega|(rw [lV (by omega)];omega))]
   refine (eZ H results249 (.cons (aV H rfl) (.cons (aV H rfl) (.cons (aV H rfl) .nil))) ?_).1;exact H.rt ⟨by rw [hfin];first|rw [au (by omega)]|rw [ah (by omega)],rfl⟩
  intro h43 a H
  try have p43:=dF h43
  refine kH H (YM h43 rfl (YM h43 rfl (YM h43 rfl ?_)));clear H;intro a H;refine MI _ H (wg H rfl rfl h43) rfl rfl rfl (by omega) (by omega) rfl ?_;clear H;intro a H;refine qx _ iB H (wg H rfl rfl h43) rfl rfl rfl (by first|assumption|omega) rfl ?_;clear H;intro a H;refine kH H (YM h43 rfl (YC h43 rfl (Pf h43 rfl (Rm rfl (Sp 52 rfl ?_ ?_))))) <;> clear H
  ·intro lG a H
   try have p52:=dT lG
   refine kH H (bD lG rfl (aP lG rfl (aP lG rfl (Pt lG rfl (Kz dU (Ct rfl rfl (SR fun _ gu=>Rm rfl (Ra rfl (Ra rfl (ak gu rfl ?_))))))))));clear H dU gu;intro a H;refine bS ?_
   have hfin:lF s i=(if n≤k then (p,k,true) else (0,k,false)):=by
    rw [hdec];have e:5 - k=(4 - k)+1:=by omega
    rw [e,qG]
    by_cases hk2:n≤k
    ·rw [au hk2,au hk2]
    rw [ah hk2,ah hk2,au (by first|omega|(rw [lV (by omega)];omega))]
   refine (eZ H results249 (.cons (aV H rfl) (.cons (aV H rfl) (.cons (aV H rfl) .nil))) ?_).1;exact H.rt ⟨by rw [hfin];first|rw [au (by omega)]|rw [ah (by omega)],rfl⟩
  intro lG a H
  try have p52:=dF lG
  refine kH H (YM lG rfl (YM lG rfl (YM lG rfl ?_)));clear H;intro a H;refine MI _ H (wg H rfl rfl lG) rfl rfl rfl (by omega) (by omega) rfl ?_;clear H;intro a H;refine qx _ iB H (wg H rfl rfl lG) rfl rfl rfl (by first|assumption|omega) rfl ?_;clear H;intro a H;refine kH H (YM lG rfl (YC lG rfl (Pf lG rfl (Kz dU (Cd rfl ?_ ?_))))) <;> clear H dU
  ·intro jX a H
   try have p60:=dT jX
   refine kP H (SR fun _ fC=>Rm rfl (Ra rfl (Ra rfl (ak fC rfl ?_))));clear H fC;intro a H;refine bS ?_
   have hfin:lF s i=(if n≤k then (p,k,true) else (0,k,false)):=by
    rw [hdec];have e:5 - k=(4 - k)+1:=by omega
    rw [e,qG]
    by_cases hk2:n≤k
    ·rw [au hk2,au hk2]
    rw [ah hk2,ah hk2,au (by first|omega|(rw [lV (by omega)];omega))]
   refine (eZ H results249 (.cons (aV H rfl) (.cons (aV H rfl) (.cons (aV H rfl) .nil))) ?_).1;exact H.rt ⟨by rw [hfin];first|rw [au (by omega)]|rw [ah (by omega)],rfl⟩
  intro jX a H
  try have p60:=dF jX
  refine kP H (Kc dW (SR fun _ gH=>Rm rfl ?_));clear H dW;intro a H;refine aqI _ H wn rfl rfl rfl (by decide) rfl ?_;clear H;intro a H;refine kH H (Rm rfl (Rm rfl (Rm rfl (Rd rfl ?_))));clear H;intro a H;refine qx _ iB H wn rfl rfl rfl (by first|assumption|omega) rfl ?_;clear H;intro a H;refine Cr (gN s (i+k)) lJ MX H wn rfl (by rw [lV (by omega)];exact WA _) rfl ?_;clear H;intro a H;(iterate 2 refine P8 rfl H wn rfl rfl rfl ?_;clear H;intro a H);refine kH H (ak gH rfl (SC (Ra rfl (bC dR rfl (SC (Rm rfl (Rd rfl (Ra rfl ?_))))))));clear H gH dR;intro a H;refine aD ?_;refine dM ((k+1,128,191,wX .or .i64 (IntKind.i64.wrap (p*2 ^ 6)) (wX .and .i64 (gN s (i+k)) 63))) (by exact (H).sub ⟨rfl,rfl,rfl,rfl,rfl,rfl,rfl,aC⟩) ?_
  (try dsimp only);refine ⟨by omega,?_⟩
  have e:5 - k=(5 - (k+1))+1:=by omega
  rw [hdec,e,qG,ah (by omega),lV (by omega),ah (by omega)]
 intro fE a H
 try have p34:=dF fE
 refine eu ?_;refine bO _ _ ?_;clear bO;refine kP H (SR fun _ iC=>Rm rfl (Rm rfl (Ra rfl (Ra rfl (ak iC rfl ?_)))));clear H iC;intro a H;refine bS ?_
 have hfin:lF s i=(if n≤k then (p,k,true) else (0,k,false)):=by
  rw [hdec];have e:5 - k=(4 - k)+1:=by omega
  rw [e,qG]
  by_cases hk2:n≤k
  ·rw [au hk2,au hk2]
  rw [ah hk2,ah hk2,au (by first|omega|(rw [lV (by omega)];omega))]
 refine (eZ H results249 (.cons (aV H rfl) (.cons (aV H rfl) (.cons (aV H rfl) .nil))) ?_).1;exact H.rt ⟨by rw [hfin];first|rw [au (by omega)]|rw [ah (by omega)],rfl⟩
theorem YJ (s:ByteArray) (at_ n:Nat):∀ (f k:Nat) (low high p:Int),n≤k+f→k≤n→k≤(qG s at_ n f k low high p).2.1∧(qG s at_ n f k low high p).2.1≤n∧((qG s at_ n f k low high p).2.2=true→at_+k≤s.size→at_+(qG s at_ n f k low high p).2.1≤s.size)
 | 0,k,low,high,p,h1,h2=>by simp only [qG];omega
 | f+1,k,low,high,p,h1,h2=>by
  unfold qG
  split
  ·simp only [];omega
  split
  ·simp only [];omega
  have ih:=YJ s at_ n f (k+1) 128 191 (wX .or .i64 (IntKind.i64.wrap (p*2 ^ 6)) (wX .and .i64 (gN s (at_+k)) 63)) (by omega) (by omega);refine ⟨by have:=ih.1;omega,ih.2.1,fun h3 h4=>ih.2.2 h3 (by omega)⟩
theorem N8 (s:ByteArray) (i:Nat) (hi:i < s.size):(lF s i).2.1≤4∧((lF s i).2.2=true→1≤(lF s i).2.1∧i+(lF s i).2.1≤s.size):=by
 have ht:=Wu (gN s i)
 unfold lF
 simp only []
 split
 ·simp
 split
 ·simp;omega
 have:=YJ s i (jh (gN s i)).2.2.toNat 4 1 (jh (gN s i)).1 (jh (gN s i)).2.1 (wX .and .i64 (gN s i) ((127:Int).fdiv (2 ^ (jh (gN s i)).2.2.toNat))) (by omega) (by omega);refine ⟨by omega,fun h=>⟨by omega,this.2.2 h (by omega)⟩⟩
def uj (s:ByteArray) (i:Nat):Int :=
 if h:i < s.size then (if h2:(lF s i).2.2=true then uj s (i+(lF s i).2.1) else i) else -1
 termination_by s.size - i
 decreasing_by have:=(N8 s i h).2 h2;omega
theorem akl (G:GH) (w0:World) (hG:Hold G w0) (s:ByteArray) (hs:s.size < 4611686018427387904) :
  Calls prog 225 #[.string s] w0 (bH w0 G fun v G'=>v=.int .i64 (uj s 0)∧G=G'):=by
 refine eN [(0,_)] func225 rfl ntmps225 rfl rfl hG ?_;intro a H;refine kP H (SR fun _ K1=>ak K1 rfl (SQ fun _ K2=>SR fun _ K3=>ak K3 rfl (SB ?_)));clear H K1 K3;intro a H;skip;refine fH (ι:=Nat) (Tc:=[(0,_)]) (Lc:=[]) (fun gh=>[(3,.int .i64 (gh:Int))]) (fun gh=>[]) (fun gh=>G) (fun gh=>gh≤s.size∧uj s 0=uj s gh) (fun gh=>s.size - gh) (0) (by exact (H).sub ⟨rfl,rfl,aC⟩) ?_ ?_
 ·exact ⟨by omega,rfl⟩
 clear H;intro i a w hI H;obtain ⟨hk,hf⟩:=hI;dsimp only [lca,bq] at H;refine kP H (SQ fun _ K4=>SR fun _ K5=>Rm rfl (Rm rfl (Rv iB rfl (Rc rfl (Kz K5 (Cd rfl ?_ ?_)))))) <;> clear H K5
 ·intro h10 a H
  try have nV:=dT h10
  refine kP H (Kc K4 (SB (SR fun _ K6=>Rm rfl (Rm rfl ?_))));clear H K4;intro a H;refine s_call aiK H wn rfl (agL _ _ H.ro s i (by omega) hs) rfl ?_;clear H;rintro v14 _ a w ⟨rfl,rfl⟩ - H;have hd:=N8 s i (by omega);refine kH H (Rm rfl ?_);clear H;intro a H;(iterate 3 refine lS H wn rfl rfl rfl ?_;clear H;intro a H);refine kH H (Ra rfl (Ra rfl (ak K6 rfl (SQ fun _ K7=>SR fun _ K8=>Rm rfl (Rn rfl (Kz K8 (Cd rfl ?_ ?_))))))) <;> clear H K6 K8
  ·intro h19 a H
   try have sO:=dT h19
   exact kP H (SR fun _ K9=>Rm rfl (ak K9 rfl (LR results225 rfl fun H=>H.rt ⟨by rw [hf,uj,dif_pos (by omega),dif_neg (by simpa using h19)],rfl⟩)))
  intro h19 a H
  try have sO:=dF h19
  refine kP H (Kc K7 (SC (Rm rfl (Rm rfl (Rd rfl (Ra rfl ?_))))));clear H K7;intro a H;refine aD ?_;refine Vp ((i+(lF s i).2.1)) (by exact (H).sub ⟨rfl,rfl,aC⟩) ?_ ?_
  ·have h1:(lF s i).2.2=true:=by simpa using h19
   have h2:=hd.2 h1;refine ⟨by omega,?_⟩;rw [hf,uj,dif_pos (by omega),dif_pos h1]
  have h1:(lF s i).2.2=true:=by simpa using h19
  have h2:=hd.2 h1
  omega
 intro h10 a H
 try have nV:=dF h10
 refine eu ?_;refine K2 _ _ ?_;clear K2;exact kP H (SR fun _ aW=>ak aW rfl (LR results225 rfl fun H=>H.rt ⟨by rw [hf,uj,dif_neg (by omega)],rfl⟩))
def rT (s:ByteArray):Bool:=decide (uj s 0 < 0)
theorem M6 (G:GH) (w0:World) (hG:Hold G w0) (s:ByteArray) (hs:s.size < 4611686018427387904) :
  Calls prog 193 #[.string s] w0 (bH w0 G fun v G'=>v=.bool (rT s)∧G=G'):=by
 refine eN [(0,_)] func193 rfl ntmps193 rfl rfl hG ?_;intro a H;refine kP H (SR fun _ K1=>ak K1 rfl (SR fun _ K2=>Rm rfl ?_));clear H K1;intro a H;refine s_call aiA H wn rfl (akl _ _ H.ro s hs) rfl ?_;clear H;rintro v4 _ a w ⟨rfl,rfl⟩ - H;exact kH H (Rc rfl (ak K2 rfl (LR results193 rfl fun H=>H.rt ⟨rfl,rfl⟩)))
def qF (s:ByteArray) (i:Nat):Nat :=
 if i < s.size then (if wX .and .u8 (gN s i) 192=128 then 0 else 1)+qF s (i+1) else 0
 termination_by s.size - i
theorem Yr (s:ByteArray):∀ (n i:Nat),s.size - i=n→qF s i≤n
 | 0,i,h=>by rw [qF,ah (by omega)];exact bL _
 | n+1,i,h=>by
  have ih:=Yr s n (i+1) (by omega);rw [qF,au (by omega)]
  split <;> omega
def rZ (s:ByteArray):Nat:=if rT s then qF s 0 else 0
def J2 (s:ByteArray):Int:=if rT s then 0 else 12
theorem NW (s:ByteArray):rZ s≤s.size:=by unfold rZ;have:=Yr s s.size 0 (by omega);split <;> omega
theorem Yx (G:GH) (w0:World) (hG:Hold G w0) (s:ByteArray) (hs:s.size < 4611686018427387904) :
  Calls prog 197 #[.string s] w0 (bH w0 G fun v G'=>v=.tuple #[vi (rZ s),vi (J2 s)]∧G=G'):=by
 refine eN [(0,_)] func197 rfl ntmps197 rfl rfl hG ?_;intro a H;refine kP H (SR fun _ K1=>Ra rfl (ak K1 rfl (SQ fun _ K2=>SR fun _ K3=>Rm rfl ?_)));clear H K1;intro a H;refine s_call KS H wn rfl (M6 _ _ H.ro s hs) rfl ?_;clear H;rintro v6 _ a w ⟨rfl,rfl⟩ - H;refine kH H (Rn rfl (Kz K3 (Cd rfl ?_ ?_))) <;> clear H K3
 ·intro h7 a H
  refine kP H (SR fun _ K4=>Ra rfl (ak K4 rfl ?_));clear H K4;intro a H;refine bS ?_;refine (eZ H results197 (.cons (aV H rfl) (.cons (aV H rfl) .nil)) ?_).1;exact H.rt ⟨by simp [rZ,J2,show rT s=false by simpa using h7],rfl⟩
 intro h7 a H
 try have p7:=dF h7
 refine kP H (Kc K2 (SQ fun _ K5=>SR fun _ K6=>Rm rfl (Rv iB rfl (Rm rfl (Kz K6 (SB ?_))))));clear H K2 K6;intro a H;skip;refine fH (ι:=Nat × Nat) (Tc:=[(0,_),(9,_)]) (Lc:=[]) (fun gh=>[(2,vi gh.2),(10,vi gh.1)]) (fun gh=>[]) (fun gh=>G) (fun gh=>gh.1≤s.size∧gh.2≤gh.1∧gh.2+qF s gh.1=rZ s) (fun gh=>s.size - gh.1) ((0,0)) (by exact (H).sub ⟨rfl,rfl,rfl,rfl,aC⟩) ?_ ?_
 ·exact ⟨by omega,by omega,by simp [rZ,show rT s=true by simpa using h7]⟩
 clear H;rintro ⟨i,n⟩ a w hI H;dsimp only at hI H;obtain ⟨hk,hn,hf⟩:=hI;dsimp only [lca,bq] at H;refine kP H (SR fun _ K7=>Rc rfl (Kz K7 (SQ fun _ K8=>Cd rfl ?_ ?_))) <;> clear H K7
 ·intro h11 a H
  try have rM:=dT h11
  refine kP H (Kc K8 (SQ fun _ K9=>SB (SR fun _ aW=>Rm rfl (ak aW rfl (SR fun _ bO=>Rm rfl (Rm rfl ?_))))));clear H K8 aW;intro a H;refine qx _ iB H wn rfl rfl rfl (by first|assumption|omega) rfl ?_;clear H;intro a H;refine P8 rfl H wn rfl rfl rfl ?_;clear H;intro a H;refine kH H (Rc rfl (Kz bO (Cd rfl ?_ ?_))) <;> clear H bO
  ·intro eY a H
   try have nH:=dT eY
   refine kP H (SC (Rm rfl (Rd rfl (bC K9 rfl (SC (Rd rfl (Rm rfl ?_)))))));clear H K9;intro a H;refine aD ?_;refine dM ((i+1,n+1)) (by exact (H).sub ⟨rfl,rfl,rfl,rfl,aC⟩) ?_
   (try dsimp only);rw [← lV (by omega)] at nH;rw [qF,au (by omega),ah nH] at hf;exact ⟨by omega,by omega,by omega⟩
  intro eY a H
  try have nH:=dF eY
  refine kP H (Kc K9 (SC (Rd rfl (Rm rfl ?_))));clear H K9;intro a H;refine aD ?_;refine dM ((i+1,n)) (by exact (H).sub ⟨rfl,rfl,rfl,rfl,aC⟩) ?_
  (try dsimp only);rw [← lV (by omega),oK] at nH;rw [qF,au (by omega),au nH] at hf;exact ⟨by omega,by omega,by omega⟩
 intro h11 a H
 try have rM:=dF h11
 refine eu ?_;refine K5 _ _ ?_;clear K5;refine kP H (SR fun _ bW=>Rm rfl (Ra rfl (ak bW rfl ?_)));clear H bW;intro a H;refine bS ?_;refine (eZ H results197 (.cons (aV H rfl) (.cons (aV H rfl) .nil)) ?_).1;exact H.rt ⟨by rw [qF,ah (by omega),qh] at hf;rw [hf];simp [J2,show rT s=true by simpa using h7],rfl⟩
theorem hmx:prog.follows .mixedOrders=true:=by kernel_rfl
theorem kG:dN prog 68 0 0:=⟨by kernel_rfl⟩
theorem aH:Ty prog 3 1 8 [.int .i64 0] false:=⟨by kernel_rfl,by kernel_rfl⟩
theorem wu:dN prog 68 3 3:=⟨by kernel_rfl⟩
theorem iM:Ty prog 9 1 16 [.string ⟨#[]⟩] false:=⟨by kernel_rfl,by kernel_rfl⟩
theorem Y9:∀ args w,(callFunc 197 args).run prog w=.ok (.enter 197 args) w:=enters func197 rfl (by kernel_rfl)
theorem jk:prog.underlying 22=some (.slice 68):=by kernel_rfl
theorem dL:Ty prog 68 11 176 [.int .i64 0,.int .i64 0,.int .i64 0,.string ⟨#[]⟩,.slice none 0 0,.int .i64 0,.int .i64 0,.slice none 0 0,.slice none 0 0,.slice none 0 0,.slice none 0 0] true:=⟨by kernel_rfl,by kernel_rfl⟩
theorem gG:prog.underlying 23=some (.slice 187):=by kernel_rfl
theorem gT:Ty prog 187 2 16 [.int .i64 0,.int .i64 0] true:=⟨by kernel_rfl,by kernel_rfl⟩
theorem lU:prog.underlying 24=some (.slice 159):=by kernel_rfl
theorem nK:Ty prog 159 2 16 [.int .i64 0,.int .i64 0] true:=⟨by kernel_rfl,by kernel_rfl⟩
theorem kF:prog.underlying 25=some (.slice 161):=by kernel_rfl
theorem ji:Ty prog 161 4 32 [.int .i64 0,.int .i64 0,.int .i64 0,.bool false] true:=⟨by kernel_rfl,by kernel_rfl⟩
theorem eO:Ty prog 29 5 88 [.slice none 0 0,.int .i64 0,.int .i64 0,.slice none 0 0,.slice none 0 0] true:=⟨by kernel_rfl,by kernel_rfl⟩
theorem yC:dN prog 29 0 0:=⟨by kernel_rfl⟩
theorem uO:Ty prog 23 1 24 [.slice none 0 0] false:=⟨by kernel_rfl,by kernel_rfl⟩
theorem Oc:∀ args w,(callFunc 168 args).run prog w=.ok (.enter 168 args) w:=enters func168 rfl (by kernel_rfl)
theorem mD:dN prog 29 1 1:=⟨by kernel_rfl⟩
theorem qj:dN prog 27 2 2:=⟨by kernel_rfl⟩
theorem qy:Ty prog 24 1 24 [.slice none 0 0] false:=⟨by kernel_rfl,by kernel_rfl⟩
theorem ahO:∀ args w,(callFunc 169 args).run prog w=.ok (.enter 169 args) w:=enters func169 rfl (by kernel_rfl)
theorem Ag:dN prog 27 3 3:=⟨by kernel_rfl⟩
theorem Bn:Ty prog 25 1 24 [.slice none 0 0] false:=⟨by kernel_rfl,by kernel_rfl⟩
theorem ahP:∀ args w,(callFunc 170 args).run prog w=.ok (.enter 170 args) w:=enters func170 rfl (by kernel_rfl)
theorem kT:prog.underlying 66=some (.slice 74):=by kernel_rfl
theorem iW:Ty prog 74 6 112 [.slice none 0 0,.int .i64 0,.int .i64 0,.slice none 0 0,.slice none 0 0,.slice none 0 0] true:=⟨by kernel_rfl,by kernel_rfl⟩
theorem lu:prog.underlying 72=some (.slice 76):=by kernel_rfl
theorem iQ:Ty prog 76 7 120 [.int .i64 0,.slice none 0 0,.int .i64 0,.int .i64 0,.slice none 0 0,.slice none 0 0,.slice none 0 0] true:=⟨by kernel_rfl,by kernel_rfl⟩
theorem I9:dN prog 76 0 0:=⟨by kernel_rfl⟩
theorem C8:dN prog 76 1 1:=⟨by kernel_rfl⟩
theorem FV:∀ args w,(callFunc 108 args).run prog w=.ok (.enter 108 args) w:=enters func108 rfl (by kernel_rfl)
theorem Ew:dN prog 76 2 6:=⟨by kernel_rfl⟩
theorem kg:Ty prog 22 1 24 [.slice none 0 0] false:=⟨by kernel_rfl,by kernel_rfl⟩
theorem Og:∀ args w,(callFunc 80 args).run prog w=.ok (.enter 80 args) w:=enters func80 rfl (by kernel_rfl)
theorem Qh:qd prog 76 [(0,1),(1,5),(6,1)] [.int .i64 0,.slice none 0 0,.int .i64 0,.int .i64 0,.slice none 0 0,.slice none 0 0,.slice none 0 0]:=⟨by kernel_rfl,by kernel_rfl⟩
theorem F3:dN prog 74 0 0:=⟨by kernel_rfl⟩
theorem uh:dN prog 74 1 5:=⟨by kernel_rfl⟩
theorem uP:Ty prog 72 1 24 [.slice none 0 0] false:=⟨by kernel_rfl,by kernel_rfl⟩
theorem Y7:∀ args w,(callFunc 172 args).run prog w=.ok (.enter 172 args) w:=enters func172 rfl (by kernel_rfl)
theorem Wp:qd prog 74 [(0,5),(5,1)] [.slice none 0 0,.int .i64 0,.int .i64 0,.slice none 0 0,.slice none 0 0,.slice none 0 0]:=⟨by kernel_rfl,by kernel_rfl⟩
theorem yE:dN prog 68 4 4:=⟨by kernel_rfl⟩
theorem Ah:dN prog 68 5 9:=⟨by kernel_rfl⟩
theorem oL:dN prog 68 6 10:=⟨by kernel_rfl⟩
theorem oV:Ty prog 66 1 24 [.slice none 0 0] false:=⟨by kernel_rfl,by kernel_rfl⟩
theorem Y1:∀ args w,(callFunc 110 args).run prog w=.ok (.enter 110 args) w:=enters func110 rfl (by kernel_rfl)
theorem Y4:∀ args w,(callFunc 140 args).run prog w=.ok (.enter 140 args) w:=enters func140 rfl (by kernel_rfl)
theorem aio:∀ args w,(callFunc 203 args).run prog w=.ok (.enter 203 args) w:=enters func203 rfl (by kernel_rfl)
theorem ahx:∀ args w,(callFunc 142 args).run prog w=.ok (.enter 142 args) w:=enters func142 rfl (by kernel_rfl)
theorem ahw:∀ args w,(callFunc 141 args).run prog w=.ok (.enter 141 args) w:=enters func141 rfl (by kernel_rfl)
def jy (x:ay):Nat:=if x.kind=1 then rZ x.text else 1
def M0 (x:ay):Int:=if x.kind=1 then J2 x.text else 0
def Oa (l:List ay):Bool:=l.all fun x=>decide (M0 x=0)
def H8:List ay→Nat
 | []=>0
 | x :: l=>jy x+H8 l
def ES (l:List ay):Int:=if Oa l then H8 l else 0
def nX:List ay→Nat
 | []=>0
 | x :: l=>x.text.size+1+nX l
theorem Ia (l m:List ay):nX (l++m)=nX l+nX m:=by
 induction l with
 | nil=>simp [nX]
 | cons x l ih=>simp [nX,ih];omega
theorem adH (l:List ay) (k:Nat):nX (l.take k)≤nX l:=by
 have:=Ia (l.take k) (l.drop k);rw [List.take_append_drop] at this;omega
theorem F4 {G:GH} {l:List ay} {A:Option Addr} {k:Nat} (hk:k < l.length) (hg:∀ k r,(l.map ay.dat)[k]?=some r→∃ b o cs,A=some ⟨b,o,none⟩∧cs.length=11∧(∀ j u,cs[j]?=some u→aI G b (o+k*11+j)=some u)∧aR G r cs) :
  ∃ b o pA pn pc dA dn dc yA yn yc fA fn fc rA rn rc,A=some ⟨b,o,none⟩∧(∀ j u,[vi l[k].kind,vi l[k].code,vi l[k].id,.string l[k].text,.slice pA pn pc,vi l[k].head.marks.ins,vi l[k].head.marks.move,.slice dA dn dc,.slice yA yn yc,.slice fA fn fc,.slice rA rn rc][j]?=some u→aI G b (o+k*11+j)=some u) ∧
   jc G l[k].head (.slice pA pn pc) (.slice dA dn dc) (.slice yA yn yc)∧av G (.sl 11 (l[k].flow.map ay.dat)) (.slice fA fn fc)∧av G (.sl 6 (l[k].rows.map aS.dat)) (.slice rA rn rc):=by
 obtain ⟨b,o,cs,h1,h2,h3,h4⟩:=hg k l[k].dat (by simp [hk]);obtain ⟨pA,pn,pc,dA,dn,dc,yA,yn,yc,fA,fn,fc,rA,rn,rc,rfl,h5,h6,h7⟩:=h4.item;exact ⟨b,o,pA,pn,pc,dA,dn,dc,yA,yn,yc,fA,fn,fc,rA,rn,rc,h1,h3,h5,h6,h7⟩
theorem Vn:∀ l:List ay,l.length≤nX l
 | []=>bL _
 | x :: l=>by have:=Vn l;simp only [kW,nX];omega
theorem adG:∀ l:List ay,nX l≤bV l
 | []=>bL _
 | x :: l=>by
  have:=adG l;have h2:=tN x
  simp only [nX,bV,fO,dV] at *;omega
theorem RD (G:GH) (w0:World) (hG:Hold G w0) (rows:List (List Dat)) (A:Option Addr) (n c:Nat) (hv:av G (.sl 2 rows) (.slice A n c)) (hz:rows.length≤4294967296) :
  Calls prog 168 #[.slice A n c] w0 (bH w0 G fun v G'=>av G' (.sl 2 rows) v):=by
 obtain ⟨hn,hc1,hc2,hnil,hx⟩:=hv.cells;refine eN [(0,_)] func168 rfl ntmps168 rfl rfl hG ?_;intro a H;refine kP H (SR fun _ K1=>ak K1 rfl (SQ fun _ K2=>SR fun _ K3=>Rm rfl ?_));clear H K1;intro a H;refine Cu gG H wn rfl rfl ?_;clear H;intro a H;refine K3 _ _ ?_;clear K3;refine jC H rfl ?_ ?_
 ·intro h4
  exact kP H (SR fun _ K4=>ak K4 rfl (LR results168 rfl fun H=>H.rt (by rw [hnil (by simpa using h4)];exact av.iL rfl (by simp [maxLen]))))
 intro h4
 try have p4:=dF h4
 refine fZ ?_;refine K2 _ _ ?_;clear K2;refine bN (fun _ K5=>?_)
 have hA:¬ A=none:=by intro e;rw [e] at h4;cases h4
 refine mP ?_;refine Cq gG gT H wn rfl ?_;clear H;intro b5 a w hb5 H;refine kH H (Rm rfl ?_);clear H;intro a H
 by_cases hr0:rows=[]
 ·have hn0:n=0:=by rw [hn,hr0];rfl
  subst hn0;refine Bf gG gT H wn rfl rfl (bL _) rfl ?_;clear H;intro a H;exact kH H (bC K5 rfl (LR results168 rfl fun H=>H.rt (by rw [hr0];exact av.iL rfl (by simp [maxLen]))))
 obtain ⟨b,o,xs,rfl,hxl,hxc,hx1,dP⟩:=hx hr0;refine nk (Li:=[]) (Lo:=[_]) (news:=xs) gG gT rfl rfl H wn rfl rfl bY.empty hxl (fun j u hj=>H.hp.aI (hxc j u hj)) hx1 (by omega) (by omega) rfl ?_;clear H;intro v7 Lo a w hrow H;obtain ⟨G',hm,hrep,H⟩:=H.nQ hrow (rows:=rows) (by omega) (by simpa using dP)
 try clear hG
 obtain ⟨G2,hG2⟩:∃ g,g=G':=⟨_,rfl⟩;subst hG2;exact kH H (bC K5 rfl (LR results168 rfl fun H=>H.rt hrep))
theorem agd (G:GH) (w0:World) (hG:Hold G w0) (rows:List (List Dat)) (A:Option Addr) (n c:Nat) (hv:av G (.sl 2 rows) (.slice A n c)) (hz:rows.length≤4294967296) :
  Calls prog 169 #[.slice A n c] w0 (bH w0 G fun v G'=>av G' (.sl 2 rows) v):=by
 obtain ⟨hn,hc1,hc2,hnil,hx⟩:=hv.cells;refine eN [(0,_)] func169 rfl ntmps169 rfl rfl hG ?_;intro a H;refine kP H (SR fun _ K1=>ak K1 rfl (SQ fun _ K2=>SR fun _ K3=>Rm rfl ?_));clear H K1;intro a H;refine Cu lU H wn rfl rfl ?_;clear H;intro a H;refine K3 _ _ ?_;clear K3;refine jC H rfl ?_ ?_
 ·intro h4
  exact kP H (SR fun _ K4=>ak K4 rfl (LR results169 rfl fun H=>H.rt (by rw [hnil (by simpa using h4)];exact av.iL rfl (by simp [maxLen]))))
 intro h4
 try have p4:=dF h4
 refine fZ ?_;refine K2 _ _ ?_;clear K2;refine bN (fun _ K5=>?_)
 have hA:¬ A=none:=by intro e;rw [e] at h4;cases h4
 refine mP ?_;refine Cq lU nK H wn rfl ?_;clear H;intro b5 a w hb5 H;refine kH H (Rm rfl ?_);clear H;intro a H
 by_cases hr0:rows=[]
 ·have hn0:n=0:=by rw [hn,hr0];rfl
  subst hn0;refine Bf lU nK H wn rfl rfl (bL _) rfl ?_;clear H;intro a H;exact kH H (bC K5 rfl (LR results169 rfl fun H=>H.rt (by rw [hr0];exact av.iL rfl (by simp [maxLen]))))
 obtain ⟨b,o,xs,rfl,hxl,hxc,hx1,dP⟩:=hx hr0;refine nk (Li:=[]) (Lo:=[_]) (news:=xs) lU nK rfl rfl H wn rfl rfl bY.empty hxl (fun j u hj=>H.hp.aI (hxc j u hj)) hx1 (by omega) (by omega) rfl ?_;clear H;intro v7 Lo a w hrow H;obtain ⟨G',hm,hrep,H⟩:=H.nQ hrow (rows:=rows) (by omega) (by simpa using dP)
 try clear hG
 obtain ⟨G2,hG2⟩:∃ g,g=G':=⟨_,rfl⟩;subst hG2;exact kH H (bC K5 rfl (LR results169 rfl fun H=>H.rt hrep))
theorem agk (G:GH) (w0:World) (hG:Hold G w0) (rows:List (List Dat)) (A:Option Addr) (n c:Nat) (hv:av G (.sl 4 rows) (.slice A n c)) (hz:rows.length≤4294967296) :
  Calls prog 170 #[.slice A n c] w0 (bH w0 G fun v G'=>av G' (.sl 4 rows) v):=by
 obtain ⟨hn,hc1,hc2,hnil,hx⟩:=hv.cells;refine eN [(0,_)] func170 rfl ntmps170 rfl rfl hG ?_;intro a H;refine kP H (SR fun _ K1=>ak K1 rfl (SQ fun _ K2=>SR fun _ K3=>Rm rfl ?_));clear H K1;intro a H;refine Cu kF H wn rfl rfl ?_;clear H;intro a H;refine K3 _ _ ?_;clear K3;refine jC H rfl ?_ ?_
 ·intro h4
  exact kP H (SR fun _ K4=>ak K4 rfl (LR results170 rfl fun H=>H.rt (by rw [hnil (by simpa using h4)];exact av.iL rfl (by simp [maxLen]))))
 intro h4
 try have p4:=dF h4
 refine fZ ?_;refine K2 _ _ ?_;clear K2;refine bN (fun _ K5=>?_)
 have hA:¬ A=none:=by intro e;rw [e] at h4;cases h4
 refine mP ?_;refine Cq kF ji H wn rfl ?_;clear H;intro b5 a w hb5 H;refine kH H (Rm rfl ?_);clear H;intro a H
 by_cases hr0:rows=[]
 ·have hn0:n=0:=by rw [hn,hr0];rfl
  subst hn0;refine Bf kF ji H wn rfl rfl (bL _) rfl ?_;clear H;intro a H;exact kH H (bC K5 rfl (LR results170 rfl fun H=>H.rt (by rw [hr0];exact av.iL rfl (by simp [maxLen]))))
 obtain ⟨b,o,xs,rfl,hxl,hxc,hx1,dP⟩:=hx hr0;refine nk (Li:=[]) (Lo:=[_]) (news:=xs) kF ji rfl rfl H wn rfl rfl bY.empty hxl (fun j u hj=>H.hp.aI (hxc j u hj)) hx1 (by omega) (by omega) rfl ?_;clear H;intro v7 Lo a w hrow H;obtain ⟨G',hm,hrep,H⟩:=H.nQ hrow (rows:=rows) (by omega) (by simpa using dP)
 try clear hG
 obtain ⟨G2,hG2⟩:∃ g,g=G':=⟨_,rfl⟩;subst hG2;exact kH H (bC K5 rfl (LR results170 rfl fun H=>H.rt hrep))
theorem FR (G:GH) (w0:World) (hG:Hold G w0) (h:dQ) (pA dA yA:Option Addr) (pn pc dn dc yn yc:Nat) (hv:jc G h (.slice pA pn pc) (.slice dA dn dc) (.slice yA yn yc)) (hz:mh h≤4294967296) :
  Calls prog 108 #[.agg #[.slice pA pn pc,vi h.marks.ins,vi h.marks.move,.slice dA dn dc,.slice yA yn yc]] w0 (bH w0 G fun v G'=>∃ p d l,v=.agg #[p,vi h.marks.ins,vi h.marks.move,d,l]∧jc G' h p d l):=by
 have he:=Fw h;have h1:=qP (h.props.map aO.dat);have h2:=qP (h.marks.bJ.map gq.dat);have h3:=qP (h.marks.layers.map cO.dat);refine eN [(0,_)] func108 rfl ntmps108 rfl rfl hG ?_;intro a H;refine bZ (fun _ K1=>?_);refine dZ (cs:=[_,_,_,_,_]) H wn rfl rfl rfl ?_;clear H;intro b1 a w hb1 H;refine dB eO H wn rfl ?_;clear H;intro b2 a w hb2 H;refine K1 _ _ ?_;clear K1;refine kP H (SR fun _ K2=>bG yC uO 1 rfl rfl ?_);clear H;intro a H;refine s_call Oc H wn rfl (RD _ _ H.ro _ _ _ _ hv.props (by omega)) rfl ?_;clear H;rintro v5 G5 a w rF AA H;obtain ⟨A5,n5,c5,rfl⟩:=rF.form;refine kH H (Rf yC rfl ?_);clear H;intro a H;refine aY uO 1 (vs:=[_]) _ H wn rfl rfl rfl rfl rfl rfl rfl rfl ?_;clear H;intro w H;dsimp only [List.set,setRow] at H;refine K2 _ _ ?_;clear K2;refine bN (fun _ K3=>?_);obtain ⟨hvp,hvd,hvy⟩:=hv.mono AA;clear hv
 have qJ:CQ (fun (dD:Nat) (v:aj) (G:GH)=>match dD with|0=>v=(aK b1 1)|1=>v=(aK b1 3)|2=>v=.slice dA dn dc|3=>av G (.sl 2 (h.marks.bJ.map gq.dat)) v|4=>v=(aK b1 1)|5=>v=(aK b1 4)|6=>v=.slice yA yn yc|7=>av G (.sl 4 (h.marks.layers.map cO.dat)) v|8=>v=(aK b1 1)|9=>v=(aK b1 3)|_=>True):=by intro dD v G G' hm h;(iterate 14 (rcases dD with _|dD;(first|exact h|exact av.mono hm h)));exact trivial
 refine BO (hmx) [[],[0],[0,1],[0,1,2],[],[4],[4,5],(ra 0 7),(ra 0 7),(ra 0 7++[8]),(ra 0 10),(ra 0 11),(ra 0 12),(ra 0 13)] (ra 10 4) (by kernel_rfl) (by kernel_rfl) _ qJ H ?_ ?_
 ·clear H;refine aF ?_ ?_ ?_ ?_ (aF ?_ ?_ ?_ ?_ (aF ?_ ?_ (bQ rfl) (bQ rfl) (bM (bQ rfl) (bM (bQ rfl) dz))))
  ·refine eB [] rfl trivial (by kernel_rfl) qJ rfl rfl ?_;intro bE a w G1 hG HT H fin;exact kH H (Rf mD rfl fun _ H=>fin H iJ rfl)
  ·refine eB [(0,7,_)] rfl ⟨fun _ _ h=>h,aC⟩ (by kernel_rfl) qJ rfl rfl ?_;intro bE a w G1 hG HT H fin;exact kH H (Rf qj rfl fun _ H=>fin H iJ rfl)
  ·refine eB [(1,8,_)] rfl ⟨fun _ _ h=>h,aC⟩ (by kernel_rfl) qJ rfl rfl ?_;intro bE a w G1 hG HT H fin;exact kH H (Ro qy 1 rfl fun _ H=>fin H iJ rfl)
  ·refine eB [(2,9,_)] rfl ⟨fun _ _ h=>h,aC⟩ (by kernel_rfl) qJ rfl rfl ?_;intro bE a w G1 hG HT H fin;refine s_call ahO H wn rfl (agd _ _ H.ro _ _ _ _ (hvd.mono hG) (by omega)) rfl ?_;clear H;rintro v10 CK a w uz ru H;exact fin H ru (uz)
  ·refine eB [] rfl trivial (by kernel_rfl) qJ rfl rfl ?_;intro bE a w G1 hG HT H fin;exact kH H (Rf mD rfl fun _ H=>fin H iJ rfl)
  ·refine eB [(4,11,_)] rfl ⟨fun _ _ h=>h,aC⟩ (by kernel_rfl) qJ rfl rfl ?_;intro bE a w G1 hG HT H fin;exact kH H (Rf Ag rfl fun _ H=>fin H iJ rfl)
  ·refine eB [(5,12,_)] rfl ⟨fun _ _ h=>h,aC⟩ (by kernel_rfl) qJ rfl rfl ?_;intro bE a w G1 hG HT H fin;exact kH H (Ro Bn 1 rfl fun _ H=>fin H iJ rfl)
  ·refine eB [(6,13,_)] rfl ⟨fun _ _ h=>h,aC⟩ (by kernel_rfl) qJ rfl rfl ?_;intro bE a w G1 hG HT H fin;refine s_call ahP H wn rfl (agk _ _ H.ro _ _ _ _ (hvy.mono hG) (by omega)) rfl ?_;clear H;rintro v14 ze a w sM Dg H;exact fin H Dg (sM)
  ·refine eB [] rfl trivial (by kernel_rfl) qJ rfl rfl ?_;intro bE a w G1 hG HT H fin;exact kH H (Rf mD rfl fun _ H=>fin H iJ rfl)
  refine eB [(8,15,_)] rfl ⟨fun _ _ h=>h,aC⟩ (by kernel_rfl) qJ rfl rfl ?_;intro bE a w G1 hG HT H fin;exact kH H (Rf qj rfl fun _ H=>fin H iJ rfl)
 clear H;intro a w G Di H hv;obtain ⟨u10,Mi,uz⟩:=hv 3 10 (by decide) rfl;(try dsimp only at uz);obtain ⟨WW,n10,c10,rfl⟩:=uz.form;have H:=H.jV Mi;obtain ⟨u14,Mj,sM⟩:=hv 7 14 (by decide) rfl;(try dsimp only at sM);obtain ⟨QA,n14,c14,rfl⟩:=sM.form;have H:=H.jV Mj;have H:=H.aM (hv 9 16 rfl rfl) rfl;clear hv;refine aY qy 1 (vs:=[_]) _ H wn rfl rfl rfl rfl rfl rfl rfl rfl ?_;clear H;intro w H;dsimp only [List.set,setRow] at H;refine kH H (Rf mD rfl (Rf Ag rfl ?_));clear H;intro a H;refine aY Bn 1 (vs:=[_]) _ H wn rfl rfl rfl rfl rfl rfl rfl rfl ?_;clear H;intro w H;dsimp only [List.set,setRow] at H;refine aD ⟨rfl,?_⟩;refine K3 _ _ ?_;clear K3;refine bZ (fun _ K4=>?_);refine bB eO (cs:=[_,_,_,_,_]) H wn rfl rfl (H.hp.bU 1 rfl rfl) rfl ?_;clear H;intro a H;refine aY eO 0 (vs:=[_,_,_,_,_]) _ H wn rfl rfl rfl rfl rfl rfl rfl rfl ?_;clear H;intro w H;dsimp only [List.set,setRow] at H;refine K4 _ _ ?_;clear K4;refine bS ?_;refine (leave1 H results108 (.cons (ng eO (cs:=[_,_,_,_,_]) H rfl rfl (H.hp.bU 0 rfl rfl)) .nil) ?_).1;exact H.rt ⟨_,_,_,rfl,rF.mono Di,uz,sM⟩
theorem yR {G:GH} {w:World} (h:Hold G w):gL G [] w:=⟨h,fun _ h=>(by cases h),fun _ h=>(by cases h),List.Pairwise.nil⟩
theorem IV {P:Program} {f:FuncId} {args:Array aj} {w0:World} {G:GH} {e sz n:Nat} {rows:List (List Dat)} (hG:Hold G w0) (h:Calls P f args w0 (gy w0 G [] fun u G' L'=>∃ xs,bY e sz u n xs L'∧bR G' sz rows xs)) (hl:rows.length=n) :
  Calls P f args w0 (bH w0 G fun u G'=>av G' (.sl sz rows) u):=by
 intro cs;obtain ⟨e1,w',fr,⟨v,G',L',rfl,hch,xs,hrow,dP⟩,h2,h3,h4⟩:=h cs;have hp0:Hp w0 (fun k=>k < w0.heap.size) G G ([]++[]) w0:=⟨rfl,rfl,rfl,bL _,fun _ h=>h,fun _ _=>rfl,hG,fun _ _ h=>h,fun _ _ h=>.inl h,fun _ h=>(by cases h),fun _ h=>(by cases h),fun _ h=>(by cases h),List.Pairwise.nil⟩;have hp1:=hp0.change hch;rw [lK] at hp1;refine ⟨_,w',fr,?_,h2,h3,h4⟩
 rcases hrow.2 with ⟨rfl,h5,rfl⟩|⟨b,cap,cur,rfl,rfl,h5,h6,h7,h8⟩
 ·refine hp1.ret ?_;have:rows=[]:=List.eq_nil_of_length_eq_zero (by omega);subst this
  simp only [av]
  exact ⟨none,0,by simp,by simp,by simp [maxLen],fun h=>absurd rfl h⟩
 have hn:=hp1.uM (b,.cells cur e (0,0)) (by simp);exact (hp1.giveUp 0 rfl).ret (av.fG (GH.IG G' b _) hl h5 h6 h8 (dP.mono fun k o h=>GH.IE G' hn k o h))
def CF (fv:aj) (w0:World) (G:GH) (d d':List Dat):Prop:=∀ (G1:GH) (w1:World) (cs:List aj),(∀ b o,G b=some o→G1 b=some o)→Hold G1 w1→aR G1 d cs →
 sS prog fv [.agg cs.toArray] w1 (bH w1 G1 fun u G'=>∃ cs',u=.agg cs'.toArray∧aR G' d' cs')
abbrev Il (fv:aj) (w0:World) (G:GH) (d:List Dat):Prop:=CF fv w0 G d d
theorem YW (φ:ay→ay) (G:GH) (w0:World) (hO:gL G [] w0) (l:List ay) (v fv:aj) (hv:av G (.sl 11 (l.map ay.dat)) v) (hz:l.length≤4294967296) (hf:∀ x∈l,CF fv w0 G x.dat (φ x).dat) :
  Calls prog 140 #[v,fv] w0 (gy w0 G [] fun u G' L'=>∃ xs,bY 68 11 u l.length xs L'∧bR G' 11 (l.map fun x=>(φ x).dat) xs):=by
 obtain ⟨A,c,rfl,hc1,hc2,hg⟩:=hv.slice
 have hml:4294967297≤maxLen:=by decide
 rw [aZ] at *;refine iY (N:=22) (T:=[(0,_),(1,_)]) func140 rfl ntmps140 rfl rfl hO ?_;intro a H;refine kP H (SR fun _ K1=>ak K1 rfl (SR fun _ K2=>ak K2 rfl (SQ fun _ K3=>SR fun _ K4=>Rm rfl (Rl jk rfl (Rm rfl (Kz K4 (SB ?_)))))));clear H K1 K2 K4;intro a H;skip;refine fH (ι:=Nat × aj × List aj × OL × GH) (Tc:=[(1,_),(8,_),(9,_)]) (Lc:=[]) (fun gh=>[(5,gh.2.1),(10,vi gh.1)]) (fun gh=>[]++gh.2.2.2.1) (fun gh=>gh.2.2.2.2) (fun gh=>gh.1≤l.length∧bY 68 11 gh.2.1 gh.1 gh.2.2.1 gh.2.2.2.1∧bR gh.2.2.2.2 11 ((l.map fun x=>(φ x).dat).take gh.1) gh.2.2.1∧(∀ b o,G b=some o→gh.2.2.2.2 b=some o)) (fun gh=>l.length - gh.1) ((0,.slice none 0 0,[],[],G)) (by exact (H).sub ⟨rfl,rfl,rfl,rfl,rfl,aC⟩) ?_ ?_
 ·exact ⟨by omega,bY.nil,by simpa using bR.nil,fun _ _ h=>h⟩
 clear H;rintro ⟨k,v,xs,Lo,g⟩ a w hI H;dsimp only at hI H;obtain ⟨hk,hrw,dP,hgm⟩:=hI;dsimp only [lca,bq] at H;refine kP H (SR fun _ K5=>Rc rfl (Kz K5 (SQ fun _ K6=>Cd rfl ?_ ?_))) <;> clear H K5
 ·intro h11 a H
  try have rM:=dT h11
  have hk2:k < l.length:=by omega
  obtain ⟨b,o,cs,rfl,hcl,hrow,hrep⟩:=hg k l[k].dat (by simp [hk2]);obtain ⟨pA,pn,pc,dA,dn,dc,yA,yn,yc,fA,fn,fc,rA,rn,rc,rfl,-⟩:=hrep.item;replace hrow:=fun j u hj=>aJ hgm (hrow j u hj);refine kP H (Kc K6 (SQ fun _ K7=>SB (SR fun _ K8=>Ri jk dL rfl rfl ?_)));clear H K6;intro a H;refine bB dL (cs:=[_,_,_,_,_,_,_,_,_,_,_]) H wn rfl rfl (fun j v hj=>H.hp.aI (hrow j v hj)) rfl ?_;clear H;intro a H;refine dB dL H wn rfl ?_;clear H;intro b7 a w zC H;refine aY dL 0 (vs:=[_,_,_,_,_,_,_,_,_,_,_]) _ H wn rfl rfl rfl rfl rfl rfl rfl rfl ?_;clear H;intro w H;dsimp only [List.set,setRow] at H;refine K8 _ _ ?_;clear K8;refine kP H (SC (Rm rfl (Rm rfl ?_)));clear H;intro a H;refine bB dL (cs:=[_,_,_,_,_,_,_,_,_,_,_]) H wn rfl rfl (H.hp.bU 0 rfl rfl) rfl ?_;clear H;intro a H;refine kD H wn rfl rfl (hf _ (kN hk2) _ _ _ hgm H.ro (hrep.mono hgm)) rfl ?_;clear H;rintro v17 xX a w ⟨Ae,rfl,eY⟩ rD H;obtain ⟨cs,hcs⟩:∃ cs,cs=Ae:=⟨_,rfl⟩;obtain ⟨pA,pn,pc,dA,dn,dc,yA,yn,yc,fA,fn,fc,rA,rn,rc,xB,-⟩:=eY.item;rw [xB] at H;refine ig jk dL [_,_,_,_,_,_,_,_,_,_,_] [_,_,_,_,_,_,_,_,_,_,_] H wn rfl rfl rfl rfl rfl (by intro i q h;match i,h with|0,h=>exact h|n+1,h=>simp at h) rfl rfl ?_;clear H;intro b18 a w OB H;refine nk (Li:=[_,_]) (Lo:=Lo) (news:=Ae) jk dL rfl rfl H wn rfl rfl hrw (by rw [xB];rfl) (by rw [xB];exact H.hp.bU 0 rfl rfl) eY.one (by omega) (by omega) rfl ?_;clear H;intro v19 FE a w zH H;refine kH H (bC K7 rfl (SC (Rd rfl (Rm rfl ?_))));clear H K7;intro a H;refine aD ?_;refine dM ((k+1,v19,xs++Ae,FE,xX)) (by exact (H.dG (Pl:=[_,_]) (cZ:=[]) [] (by decide) rfl).sub ⟨rfl,rfl,rfl,rfl,rfl,aC⟩) ?_
  (try dsimp only);refine ⟨by omega,zH,?_,fun b o h=>rD b o (hgm b o h)⟩;rw [iH (by simpa using hk2)];exact (dP.mono rD).snoc (by simpa using eY) (by rw [xB];rfl)
 intro h11 a H
 try have rM:=dF h11
 refine eu ?_;refine K3 _ _ ?_;clear K3;refine kP H (SR fun _ K9=>Rm rfl (ak K9 rfl ?_));clear H K9;intro a H;refine lr H results140 rfl ?_
 obtain rfl:k=l.length:=by omega
 exact H.hp.dJ ⟨_,hrw,by rw [iX (by simp)] at dP;exact dP⟩
theorem agZ (φ:ay→ay) (G:GH) (w0:World) (hG:Hold G w0) (l:List ay) (v fv:aj) (hv:av G (.sl 11 (l.map ay.dat)) v) (hz:l.length≤4294967296) (hf:∀ x∈l,CF fv w0 G x.dat (φ x).dat) :
  Calls prog 140 #[v,fv] w0 (bH w0 G fun u G'=>av G' (.sl 11 (l.map fun x=>(φ x).dat)) u):=IV hG (YW φ G w0 (yR hG) l v fv hv hz hf) (by simp)
theorem agV (G:GH) (w0:World) (hG:Hold G w0) (l:List ay) (v fv:aj) (hv:av G (.sl 11 (l.map ay.dat)) v) (hz:l.length≤4294967296) (hf:∀ x∈l,Il fv w0 G x.dat) :
  Calls prog 140 #[v,fv] w0 (bH w0 G fun u G'=>av G' (.sl 11 (l.map ay.dat)) u):=agZ (fun x=>x) G w0 hG l v fv hv hz hf
theorem agX (φ:aS→aS) (G:GH) (w0:World) (hO:gL G [] w0) (l:List aS) (v fv:aj) (hv:av G (.sl 6 (l.map aS.dat)) v) (hz:l.length≤4294967296) (hf:∀ x∈l,CF fv w0 G x.dat (φ x).dat) :
  Calls prog 110 #[v,fv] w0 (gy w0 G [] fun u G' L'=>∃ xs,bY 74 6 u l.length xs L'∧bR G' 6 (l.map fun x=>(φ x).dat) xs):=by
 obtain ⟨A,c,rfl,hc1,hc2,hg⟩:=hv.slice
 have hml:4294967297≤maxLen:=by decide
 rw [aZ] at *;refine iY (N:=22) (T:=[(0,_),(1,_)]) func110 rfl ntmps110 rfl rfl hO ?_;intro a H;refine kP H (SR fun _ K1=>ak K1 rfl (SR fun _ K2=>ak K2 rfl (SQ fun _ K3=>SR fun _ K4=>Rm rfl (Rl kT rfl (Rm rfl (Kz K4 (SB ?_)))))));clear H K1 K2 K4;intro a H;skip;refine fH (ι:=Nat × aj × List aj × OL × GH) (Tc:=[(1,_),(8,_),(9,_)]) (Lc:=[]) (fun gh=>[(5,gh.2.1),(10,vi gh.1)]) (fun gh=>[]++gh.2.2.2.1) (fun gh=>gh.2.2.2.2) (fun gh=>gh.1≤l.length∧bY 74 6 gh.2.1 gh.1 gh.2.2.1 gh.2.2.2.1∧bR gh.2.2.2.2 6 ((l.map fun x=>(φ x).dat).take gh.1) gh.2.2.1∧(∀ b o,G b=some o→gh.2.2.2.2 b=some o)) (fun gh=>l.length - gh.1) ((0,.slice none 0 0,[],[],G)) (by exact (H).sub ⟨rfl,rfl,rfl,rfl,rfl,aC⟩) ?_ ?_
 ·exact ⟨by omega,bY.nil,by simpa using bR.nil,fun _ _ h=>h⟩
 clear H;rintro ⟨k,v,xs,Lo,g⟩ a w hI H;dsimp only at hI H;obtain ⟨hk,hrw,dP,hgm⟩:=hI;dsimp only [lca,bq] at H;refine kP H (SR fun _ K5=>Rc rfl (Kz K5 (SQ fun _ K6=>Cd rfl ?_ ?_))) <;> clear H K5
 ·intro h11 a H
  try have rM:=dT h11
  have hk2:k < l.length:=by omega
  obtain ⟨b,o,cs,rfl,hcl,hrow,hrep⟩:=hg k l[k].dat (by simp [hk2]);obtain ⟨pA,pn,pc,dA,dn,dc,yA,yn,yc,fA,fn,fc,rfl,-⟩:=hrep.row;replace hrow:=fun j u hj=>aJ hgm (hrow j u hj);refine kP H (Kc K6 (SQ fun _ K7=>SB (SR fun _ K8=>Ri kT iW rfl rfl ?_)));clear H K6;intro a H;refine bB iW (cs:=[_,_,_,_,_,_]) H wn rfl rfl (fun j v hj=>H.hp.aI (hrow j v hj)) rfl ?_;clear H;intro a H;refine dB iW H wn rfl ?_;clear H;intro b7 a w zC H;refine aY iW 0 (vs:=[_,_,_,_,_,_]) _ H wn rfl rfl rfl rfl rfl rfl rfl rfl ?_;clear H;intro w H;dsimp only [List.set,setRow] at H;refine K8 _ _ ?_;clear K8;refine kP H (SC (Rm rfl (Rm rfl ?_)));clear H;intro a H;refine bB iW (cs:=[_,_,_,_,_,_]) H wn rfl rfl (H.hp.bU 0 rfl rfl) rfl ?_;clear H;intro a H;refine kD H wn rfl rfl (hf _ (kN hk2) _ _ _ hgm H.ro (hrep.mono hgm)) rfl ?_;clear H;rintro v17 xX a w ⟨Ae,rfl,eY⟩ rD H;obtain ⟨cs,hcs⟩:∃ cs,cs=Ae:=⟨_,rfl⟩;obtain ⟨pA,pn,pc,dA,dn,dc,yA,yn,yc,fA,fn,fc,xB,-⟩:=eY.row;rw [xB] at H;refine ig kT iW [_,_,_,_,_,_] [_,_,_,_,_,_] H wn rfl rfl rfl rfl rfl (by intro i q h;match i,h with|0,h=>exact h|n+1,h=>simp at h) rfl rfl ?_;clear H;intro b18 a w OB H;refine nk (Li:=[_,_]) (Lo:=Lo) (news:=Ae) kT iW rfl rfl H wn rfl rfl hrw (by rw [xB];rfl) (by rw [xB];exact H.hp.bU 0 rfl rfl) eY.one (by omega) (by omega) rfl ?_;clear H;intro v19 FE a w zH H;refine kH H (bC K7 rfl (SC (Rd rfl (Rm rfl ?_))));clear H K7;intro a H;refine aD ?_;refine dM ((k+1,v19,xs++Ae,FE,xX)) (by exact (H.dG (Pl:=[_,_]) (cZ:=[]) [] (by decide) rfl).sub ⟨rfl,rfl,rfl,rfl,rfl,aC⟩) ?_
  (try dsimp only);refine ⟨by omega,zH,?_,fun b o h=>rD b o (hgm b o h)⟩;rw [iH (by simpa using hk2)];exact (dP.mono rD).snoc (by simpa using eY) (by rw [xB];rfl)
 intro h11 a H
 try have rM:=dF h11
 refine eu ?_;refine K3 _ _ ?_;clear K3;refine kP H (SR fun _ K9=>Rm rfl (ak K9 rfl ?_));clear H K9;intro a H;refine lr H results110 rfl ?_
 obtain rfl:k=l.length:=by omega
 exact H.hp.dJ ⟨_,hrw,by rw [iX (by simp)] at dP;exact dP⟩
theorem YZ (φ:aS→aS) (G:GH) (w0:World) (hG:Hold G w0) (l:List aS) (v fv:aj) (hv:av G (.sl 6 (l.map aS.dat)) v) (hz:l.length≤4294967296) (hf:∀ x∈l,CF fv w0 G x.dat (φ x).dat) :
  Calls prog 110 #[v,fv] w0 (bH w0 G fun u G'=>av G' (.sl 6 (l.map fun x=>(φ x).dat)) u):=IV hG (agX φ G w0 (yR hG) l v fv hv hz hf) (by simp)
theorem agY (G:GH) (w0:World) (hG:Hold G w0) (l:List aS) (v fv:aj) (hv:av G (.sl 6 (l.map aS.dat)) v) (hz:l.length≤4294967296) (hf:∀ x∈l,Il fv w0 G x.dat) :
  Calls prog 110 #[v,fv] w0 (bH w0 G fun u G'=>av G' (.sl 6 (l.map aS.dat)) u):=YZ (fun x=>x) G w0 hG l v fv hv hz hf
theorem agW (φ:aT→aT) (G:GH) (w0:World) (hO:gL G [] w0) (l:List aT) (v fv:aj) (hv:av G (.sl 7 (l.map aT.dat)) v) (hz:l.length≤4294967296) (hf:∀ x∈l,CF fv w0 G x.dat (φ x).dat) :
  Calls prog 172 #[v,fv] w0 (gy w0 G [] fun u G' L'=>∃ xs,bY 76 7 u l.length xs L'∧bR G' 7 (l.map fun x=>(φ x).dat) xs):=by
 obtain ⟨A,c,rfl,hc1,hc2,hg⟩:=hv.slice
 have hml:4294967297≤maxLen:=by decide
 rw [aZ] at *;refine iY (N:=22) (T:=[(0,_),(1,_)]) func172 rfl ntmps172 rfl rfl hO ?_;intro a H;refine kP H (SR fun _ K1=>ak K1 rfl (SR fun _ K2=>ak K2 rfl (SQ fun _ K3=>SR fun _ K4=>Rm rfl (Rl lu rfl (Rm rfl (Kz K4 (SB ?_)))))));clear H K1 K2 K4;intro a H;skip;refine fH (ι:=Nat × aj × List aj × OL × GH) (Tc:=[(1,_),(8,_),(9,_)]) (Lc:=[]) (fun gh=>[(5,gh.2.1),(10,vi gh.1)]) (fun gh=>[]++gh.2.2.2.1) (fun gh=>gh.2.2.2.2) (fun gh=>gh.1≤l.length∧bY 76 7 gh.2.1 gh.1 gh.2.2.1 gh.2.2.2.1∧bR gh.2.2.2.2 7 ((l.map fun x=>(φ x).dat).take gh.1) gh.2.2.1∧(∀ b o,G b=some o→gh.2.2.2.2 b=some o)) (fun gh=>l.length - gh.1) ((0,.slice none 0 0,[],[],G)) (by exact (H).sub ⟨rfl,rfl,rfl,rfl,rfl,aC⟩) ?_ ?_
 ·exact ⟨by omega,bY.nil,by simpa using bR.nil,fun _ _ h=>h⟩
 clear H;rintro ⟨k,v,xs,Lo,g⟩ a w hI H;dsimp only at hI H;obtain ⟨hk,hrw,dP,hgm⟩:=hI;dsimp only [lca,bq] at H;refine kP H (SR fun _ K5=>Rc rfl (Kz K5 (SQ fun _ K6=>Cd rfl ?_ ?_))) <;> clear H K5
 ·intro h11 a H
  try have rM:=dT h11
  have hk2:k < l.length:=by omega
  obtain ⟨b,o,cs,rfl,hcl,hrow,hrep⟩:=hg k l[k].dat (by simp [hk2]);obtain ⟨pA,pn,pc,dA,dn,dc,yA,yn,yc,fA,fn,fc,rfl,-⟩:=hrep.cell;replace hrow:=fun j u hj=>aJ hgm (hrow j u hj);refine kP H (Kc K6 (SQ fun _ K7=>SB (SR fun _ K8=>Ri lu iQ rfl rfl ?_)));clear H K6;intro a H;refine bB iQ (cs:=[_,_,_,_,_,_,_]) H wn rfl rfl (fun j v hj=>H.hp.aI (hrow j v hj)) rfl ?_;clear H;intro a H;refine dB iQ H wn rfl ?_;clear H;intro b7 a w zC H;refine aY iQ 0 (vs:=[_,_,_,_,_,_,_]) _ H wn rfl rfl rfl rfl rfl rfl rfl rfl ?_;clear H;intro w H;dsimp only [List.set,setRow] at H;refine K8 _ _ ?_;clear K8;refine kP H (SC (Rm rfl (Rm rfl ?_)));clear H;intro a H;refine bB iQ (cs:=[_,_,_,_,_,_,_]) H wn rfl rfl (H.hp.bU 0 rfl rfl) rfl ?_;clear H;intro a H;refine kD H wn rfl rfl (hf _ (kN hk2) _ _ _ hgm H.ro (hrep.mono hgm)) rfl ?_;clear H;rintro v17 xX a w ⟨Ae,rfl,eY⟩ rD H;obtain ⟨cs,hcs⟩:∃ cs,cs=Ae:=⟨_,rfl⟩;obtain ⟨pA,pn,pc,dA,dn,dc,yA,yn,yc,fA,fn,fc,xB,-⟩:=eY.cell;rw [xB] at H;refine ig lu iQ [_,_,_,_,_,_,_] [_,_,_,_,_,_,_] H wn rfl rfl rfl rfl rfl (by intro i q h;match i,h with|0,h=>exact h|n+1,h=>simp at h) rfl rfl ?_;clear H;intro b18 a w OB H;refine nk (Li:=[_,_]) (Lo:=Lo) (news:=Ae) lu iQ rfl rfl H wn rfl rfl hrw (by rw [xB];rfl) (by rw [xB];exact H.hp.bU 0 rfl rfl) eY.one (by omega) (by omega) rfl ?_;clear H;intro v19 FE a w zH H;refine kH H (bC K7 rfl (SC (Rd rfl (Rm rfl ?_))));clear H K7;intro a H;refine aD ?_;refine dM ((k+1,v19,xs++Ae,FE,xX)) (by exact (H.dG (Pl:=[_,_]) (cZ:=[]) [] (by decide) rfl).sub ⟨rfl,rfl,rfl,rfl,rfl,aC⟩) ?_
  (try dsimp only);refine ⟨by omega,zH,?_,fun b o h=>rD b o (hgm b o h)⟩;rw [iH (by simpa using hk2)];exact (dP.mono rD).snoc (by simpa using eY) (by rw [xB];rfl)
 intro h11 a H
 try have rM:=dF h11
 refine eu ?_;refine K3 _ _ ?_;clear K3;refine kP H (SR fun _ K9=>Rm rfl (ak K9 rfl ?_));clear H K9;intro a H;refine lr H results172 rfl ?_
 obtain rfl:k=l.length:=by omega
 exact H.hp.dJ ⟨_,hrw,by rw [iX (by simp)] at dP;exact dP⟩
theorem YX (φ:aT→aT) (G:GH) (w0:World) (hG:Hold G w0) (l:List aT) (v fv:aj) (hv:av G (.sl 7 (l.map aT.dat)) v) (hz:l.length≤4294967296) (hf:∀ x∈l,CF fv w0 G x.dat (φ x).dat) :
  Calls prog 172 #[v,fv] w0 (bH w0 G fun u G'=>av G' (.sl 7 (l.map fun x=>(φ x).dat)) u):=IV hG (agW φ G w0 (yR hG) l v fv hv hz hf) (by simp)
theorem agU (G:GH) (w0:World) (hG:Hold G w0) (l:List aT) (v fv:aj) (hv:av G (.sl 7 (l.map aT.dat)) v) (hz:l.length≤4294967296) (hf:∀ x∈l,Il fv w0 G x.dat) :
  Calls prog 172 #[v,fv] w0 (bH w0 G fun u G'=>av G' (.sl 7 (l.map aT.dat)) u):=YX (fun x=>x) G w0 hG l v fv hv hz hf
def Fx (n:Nat):Prop:=∀ (G:GH) (w0:World),Hold G w0→∀ (l:List ay) (v:aj),av G (.sl 11 (l.map ay.dat)) v→bV l < n →
 Calls prog 80 #[v] w0 (bH w0 G fun u G'=>av G' (.sl 11 (l.map ay.dat)) u)
theorem agc {n:Nat} (ih:Fx n) (hn:n≤4294967296) (G:GH) (w0:World) (hG:Hold G w0) (x:aT) (cs:List aj) (hv:aR G x.dat cs) (hz:bT x.dat < n+1) :
  Calls prog 203 #[.agg cs.toArray] w0 (bH w0 G fun u G'=>∃ cs',u=.agg cs'.toArray∧aR G' x.dat cs'):=by
 have he:=Bt x;obtain ⟨pA,pn,pc,dA,dn,dc,yA,yn,yc,fA,fn,fc,rfl,hh,hf⟩:=hv.cell;refine eN [(0,_)] func203 rfl ntmps203 rfl rfl hG ?_;intro a H;refine bZ (fun _ K1=>?_);refine dZ (cs:=[_,_,_,_,_,_,_]) H wn rfl rfl rfl ?_;clear H;intro b1 a w hb1 H;refine dB iQ H wn rfl ?_;clear H;intro b2 a w hb2 H;refine K1 _ _ ?_;clear K1;refine bN (fun _ K2=>?_)
 have dS:CQ (fun (dD:Nat) (v:aj) (G:GH)=>match dD with|0=>v=(aK b1 0)|1=>v=vi x.id|2=>v=(aK b1 1)|3=>v=.agg #[.slice pA pn pc,vi x.head.marks.ins,vi x.head.marks.move,.slice dA dn dc,.slice yA yn yc]|4=>∃ p d l,v=.agg #[p,vi x.head.marks.ins,vi x.head.marks.move,d,l]∧jc G x.head p d l|5=>v=(aK b1 6)|6=>v=.slice fA fn fc|7=>av G (.sl 11 (x.flow.map ay.dat)) v|_=>True):=by intro dD v G G' hm h;(iterate 10 (rcases dD with _|dD;(first|exact h|exact let ⟨p,d,l,h1,h2⟩:=h;⟨p,d,l,h1,h2.mono hm⟩|exact av.mono hm h)));exact trivial
 refine BO (hmx) [[],[0],[],[2],[2,3],[],[5],(ra 2 5),(ra 0 8),(ra 0 9)] [8,9] (by kernel_rfl) (by kernel_rfl) _ dS H ?_ ?_
 ·clear H;refine aF ?_ ?_ ?_ ?_ (aF ?_ ?_ ?_ ?_ (bM (bQ rfl) (bM (bQ rfl) dz)))
  ·refine eB [] rfl trivial (by kernel_rfl) dS rfl rfl ?_;intro bE a w G1 hG HT H fin;exact kH H (Rf I9 rfl fun _ H=>fin H iJ rfl)
  ·refine eB [(0,3,_)] rfl ⟨fun _ _ h=>h,aC⟩ (by kernel_rfl) dS rfl rfl ?_;intro bE a w G1 hG HT H fin;exact kH H (Ro aH 1 rfl fun _ H=>fin H iJ rfl)
  ·refine eB [] rfl trivial (by kernel_rfl) dS rfl rfl ?_;intro bE a w G1 hG HT H fin;exact kH H (Rf C8 rfl fun _ H=>fin H iJ rfl)
  ·refine eB [(2,5,_)] rfl ⟨fun _ _ h=>h,aC⟩ (by kernel_rfl) dS rfl rfl ?_;intro bE a w G1 hG HT H fin;refine bB eO (cs:=[_,_,_,_,_]) H wn rfl rfl (H.hp.bU 1 rfl rfl) rfl ?_;clear H;intro a H;exact fin H iJ rfl
  ·refine eB [(3,6,_)] rfl ⟨fun _ _ h=>h,aC⟩ (by kernel_rfl) dS rfl rfl ?_;intro bE a w G1 hG HT H fin;refine s_call FV H wn rfl (FR _ _ H.ro x.head _ _ _ _ _ _ _ _ _ (hh.mono hG) (by omega)) rfl ?_;clear H;rintro v7 G7 a w Du LB H;exact fin H LB (Du)
  ·refine eB [] rfl trivial (by kernel_rfl) dS rfl rfl ?_;intro bE a w G1 hG HT H fin;exact kH H (Rf Ew rfl fun _ H=>fin H iJ rfl)
  ·refine eB [(5,8,_)] rfl ⟨fun _ _ h=>h,aC⟩ (by kernel_rfl) dS rfl rfl ?_;intro bE a w G1 hG HT H fin;exact kH H (Ro kg 1 rfl fun _ H=>fin H iJ rfl)
  refine eB [(6,9,_)] rfl ⟨fun _ _ h=>h,aC⟩ (by kernel_rfl) dS rfl rfl ?_;intro bE a w G1 hG HT H fin;refine s_call Og H wn rfl (ih _ _ H.ro x.flow _ (hf.mono hG) (by omega)) rfl ?_;clear H;rintro v10 CK a w uz ru H;exact fin H ru (uz)
 clear H;intro a w G nA H hv;have H:=H.aM (hv 1 4 rfl rfl) rfl;obtain ⟨u7,UZ,Du⟩:=hv 4 7 (by decide) rfl;(try dsimp only at Du);obtain ⟨p7,d7,l7,rfl,Dn⟩:=Du;obtain ⟨a1,a2,a3,rfl⟩:=Dn.props.form;obtain ⟨a4,a5,a6,rfl⟩:=Dn.bJ.form;obtain ⟨a7,a8,a9,rfl⟩:=Dn.layers.form;have H:=H.jV UZ;obtain ⟨u10,Mi,uz⟩:=hv 7 10 (by decide) rfl;(try dsimp only at uz);obtain ⟨WW,n10,c10,rfl⟩:=uz.form;have H:=H.jV Mi;clear hv;refine jv Qh [_,_,_,_,_,_,_] H wn rfl rfl rfl rfl ?_;clear H;intro a H;refine aY iQ 0 (vs:=[_,_,_,_,_,_,_]) _ H wn rfl rfl rfl rfl rfl rfl rfl rfl ?_;clear H;intro w H;dsimp only [List.set,setRow] at H;refine aD ⟨rfl,?_⟩;refine K2 _ _ ?_;clear K2;refine bS ?_;refine (leave1 H results203 (.cons (ng iQ (cs:=[_,_,_,_,_,_,_]) H rfl rfl (H.hp.bU 0 rfl rfl)) .nil) ?_).1;exact H.rt ⟨_,rfl,aR.MB Dn uz⟩
theorem agb {n:Nat} (ih:Fx n) (hn:n≤4294967296) {G:GH} {w0:World} (x:aT) (hz:bT x.dat < n+1):Il (.func (.func 203) #[] #[]) w0 G x.dat:=by
 intro G1 w1 cs hm1 hG1 hr;have h:=agc ih hn _ _ hG1 x cs hr hz;have h2:=jI (P:=prog) (caps:=[]) (args:=[.agg cs.toArray]) aio h;exact h2
theorem agt {n:Nat} (ih:Fx n) (hn:n≤4294967296) (G:GH) (w0:World) (hG:Hold G w0) (x:aS) (cs:List aj) (hv:aR G x.dat cs) (hz:bT x.dat < n+1) :
  Calls prog 142 #[.agg cs.toArray] w0 (bH w0 G fun u G'=>∃ cs',u=.agg cs'.toArray∧aR G' x.dat cs'):=by
 have he:=zW x;have hl:=Fv x.cells;obtain ⟨pA,pn,pc,dA,dn,dc,yA,yn,yc,fA,fn,fc,rfl,hh,hf⟩:=hv.row;refine eN [(0,_)] func142 rfl ntmps142 rfl rfl hG ?_;intro a H;refine bZ (fun _ K1=>?_);refine dZ (cs:=[_,_,_,_,_,_]) H wn rfl rfl rfl ?_;clear H;intro b1 a w hb1 H;refine dB iW H wn rfl ?_;clear H;intro b2 a w hb2 H;refine K1 _ _ ?_;clear K1;refine bN (fun _ K2=>?_)
 have dS:CQ (fun (dD:Nat) (v:aj) (G:GH)=>match dD with|0=>v=(aK b1 0)|1=>v=.agg #[.slice pA pn pc,vi x.head.marks.ins,vi x.head.marks.move,.slice dA dn dc,.slice yA yn yc]|2=>∃ p d l,v=.agg #[p,vi x.head.marks.ins,vi x.head.marks.move,d,l]∧jc G x.head p d l|3=>v=(aK b1 5)|4=>v=.slice fA fn fc|5=>av G (.sl 7 (x.cells.map aT.dat)) v|_=>True):=by intro dD v G G' hm h;(iterate 8 (rcases dD with _|dD;(first|exact h|exact let ⟨p,d,l,h1,h2⟩:=h;⟨p,d,l,h1,h2.mono hm⟩|exact av.mono hm h)));exact trivial
 refine BO (hmx) [[],[0],[0,1],[],[3],(ra 0 5),(ra 0 6),(ra 0 7)] [6,7] (by kernel_rfl) (by kernel_rfl) _ dS H ?_ ?_
 ·clear H;refine aF ?_ ?_ ?_ ?_ (aF ?_ ?_ (bQ rfl) (bQ rfl) dz)
  ·refine eB [] rfl trivial (by kernel_rfl) dS rfl rfl ?_;intro bE a w G1 hG HT H fin;exact kH H (Rf F3 rfl fun _ H=>fin H iJ rfl)
  ·refine eB [(0,3,_)] rfl ⟨fun _ _ h=>h,aC⟩ (by kernel_rfl) dS rfl rfl ?_;intro bE a w G1 hG HT H fin;refine bB eO (cs:=[_,_,_,_,_]) H wn rfl rfl (H.hp.bU 1 rfl rfl) rfl ?_;clear H;intro a H;exact fin H iJ rfl
  ·refine eB [(1,4,_)] rfl ⟨fun _ _ h=>h,aC⟩ (by kernel_rfl) dS rfl rfl ?_;intro bE a w G1 hG HT H fin;refine s_call FV H wn rfl (FR _ _ H.ro x.head _ _ _ _ _ _ _ _ _ (hh.mono hG) (by omega)) rfl ?_;clear H;rintro v5 G5 a w rF mR H;exact fin H mR (rF)
  ·refine eB [] rfl trivial (by kernel_rfl) dS rfl rfl ?_;intro bE a w G1 hG HT H fin;exact kH H (Rf uh rfl fun _ H=>fin H iJ rfl)
  ·refine eB [(3,6,_)] rfl ⟨fun _ _ h=>h,aC⟩ (by kernel_rfl) dS rfl rfl ?_;intro bE a w G1 hG HT H fin;exact kH H (Ro uP 1 rfl fun _ H=>fin H iJ rfl)
  refine eB [(4,7,_)] rfl ⟨fun _ _ h=>h,aC⟩ (by kernel_rfl) dS rfl rfl ?_;intro bE a w G1 hG HT H fin;refine s_call Y7 H wn rfl (agU _ _ H.ro x.cells _ _ (hf.mono hG) (by omega) (fun y hy=>agb ih hn y (by have:=WR hy;omega))) rfl ?_;clear H;rintro v8 G8 a w mU ql H;exact fin H ql (mU)
 clear H;intro a w G nA H hv;obtain ⟨u5,GX,rF⟩:=hv 2 5 (by decide) rfl;(try dsimp only at rF);obtain ⟨p5,d5,l5,rfl,tJ⟩:=rF;obtain ⟨a1,a2,a3,rfl⟩:=tJ.props.form;obtain ⟨a4,a5,a6,rfl⟩:=tJ.bJ.form;obtain ⟨a7,a8,a9,rfl⟩:=tJ.layers.form;have H:=H.jV GX;obtain ⟨u8,AU,mU⟩:=hv 5 8 (by decide) rfl;(try dsimp only at mU);obtain ⟨A8,n8,c8,rfl⟩:=mU.form;have H:=H.jV AU;clear hv;refine jv Wp [_,_,_,_,_,_] H wn rfl rfl rfl rfl ?_;clear H;intro a H;refine aY iW 0 (vs:=[_,_,_,_,_,_]) _ H wn rfl rfl rfl rfl rfl rfl rfl rfl ?_;clear H;intro w H;dsimp only [List.set,setRow] at H;refine aD ⟨rfl,?_⟩;refine K2 _ _ ?_;clear K2;refine bS ?_;refine (leave1 H results142 (.cons (ng iW (cs:=[_,_,_,_,_,_]) H rfl rfl (H.hp.bU 0 rfl rfl)) .nil) ?_).1;exact H.rt ⟨_,rfl,aR.Pp tJ mU⟩
theorem ags {n:Nat} (ih:Fx n) (hn:n≤4294967296) {G:GH} {w0:World} (x:aS) (hz:bT x.dat < n+1):Il (.func (.func 142) #[] #[]) w0 G x.dat:=by
 intro G1 w1 cs hm1 hG1 hr;have h:=agt ih hn _ _ hG1 x cs hr hz;have h2:=jI (P:=prog) (caps:=[]) (args:=[.agg cs.toArray]) ahx h;exact h2
theorem aga {n:Nat} (ih:Fx n) (hn:n≤4294967296) (G:GH) (w0:World) (hG:Hold G w0) (x:ay) (cs:List aj) (hv:aR G x.dat cs) (hz:bT x.dat < n+1) :
  Calls prog 141 #[.agg cs.toArray] w0 (bH w0 G fun u G'=>∃ cs',u=.agg cs'.toArray∧aR G' x.dat cs'):=by
 have he:=tN x;have hl:=D6 x.rows;obtain ⟨pA,pn,pc,dA,dn,dc,yA,yn,yc,fA,fn,fc,rA,rn,rc,rfl,hh,hf,hr⟩:=hv.item;refine eN [(0,_)] func141 rfl ntmps141 rfl rfl hG ?_;intro a H;refine bZ (fun _ K1=>?_);refine dZ (cs:=[_,_,_,_,_,_,_,_,_,_,_]) H wn rfl rfl rfl ?_;clear H;intro b1 a w hb1 H;refine dB dL H wn rfl ?_;clear H;intro b2 a w hb2 H;refine K1 _ _ ?_;clear K1;refine bN (fun _ K2=>?_)
 have dS:CQ (fun (dD:Nat) (v:aj) (G:GH)=>match dD with|0=>v=(aK b1 4)|1=>v=.agg #[.slice pA pn pc,vi x.head.marks.ins,vi x.head.marks.move,.slice dA dn dc,.slice yA yn yc]|2=>∃ p d l,v=.agg #[p,vi x.head.marks.ins,vi x.head.marks.move,d,l]∧jc G x.head p d l|3=>v=(aK b1 9)|4=>v=.slice fA fn fc|5=>av G (.sl 11 (x.flow.map ay.dat)) v|6=>v=(aK b1 10)|7=>v=.slice rA rn rc|8=>av G (.sl 6 (x.rows.map aS.dat)) v|9=>v=(aK b1 4)|_=>True):=by intro dD v G G' hm h;(iterate 15 (rcases dD with _|dD;(first|exact h|exact let ⟨p,d,l,h1,h2⟩:=h;⟨p,d,l,h1,h2.mono hm⟩|exact av.mono hm h)));exact trivial
 refine BO (hmx) [[],[0],[0,1],[],[3],(ra 0 5),[],[6],(ra 0 8),[0,1,2,3,4,6,7],(ra 0 10),(ra 0 11),(ra 0 12),(ra 0 13),(ra 0 14)] (ra 10 5) (by kernel_rfl) (by kernel_rfl) _ dS H ?_ ?_
 ·clear H;refine aF ?_ ?_ ?_ ?_ (aF ?_ ?_ ?_ ?_ (aF ?_ ?_ (bQ rfl) (bQ rfl) (bM (bQ rfl) (bM (bQ rfl) (bM (bQ rfl) dz)))))
  ·refine eB [] rfl trivial (by kernel_rfl) dS rfl rfl ?_;intro bE a w G1 hG HT H fin;exact kH H (Rf yE rfl fun _ H=>fin H iJ rfl)
  ·refine eB [(0,3,_)] rfl ⟨fun _ _ h=>h,aC⟩ (by kernel_rfl) dS rfl rfl ?_;intro bE a w G1 hG HT H fin;refine bB eO (cs:=[_,_,_,_,_]) H wn rfl rfl (H.hp.bU 1 rfl rfl) rfl ?_;clear H;intro a H;exact fin H iJ rfl
  ·refine eB [(1,4,_)] rfl ⟨fun _ _ h=>h,aC⟩ (by kernel_rfl) dS rfl rfl ?_;intro bE a w G1 hG HT H fin;refine s_call FV H wn rfl (FR _ _ H.ro x.head _ _ _ _ _ _ _ _ _ (hh.mono hG) (by omega)) rfl ?_;clear H;rintro v5 G5 a w rF mR H;exact fin H mR (rF)
  ·refine eB [] rfl trivial (by kernel_rfl) dS rfl rfl ?_;intro bE a w G1 hG HT H fin;exact kH H (Rf Ah rfl fun _ H=>fin H iJ rfl)
  ·refine eB [(3,6,_)] rfl ⟨fun _ _ h=>h,aC⟩ (by kernel_rfl) dS rfl rfl ?_;intro bE a w G1 hG HT H fin;exact kH H (Ro kg 1 rfl fun _ H=>fin H iJ rfl)
  ·refine eB [(4,7,_)] rfl ⟨fun _ _ h=>h,aC⟩ (by kernel_rfl) dS rfl rfl ?_;intro bE a w G1 hG HT H fin;refine s_call Og H wn rfl (ih _ _ H.ro x.flow _ (hf.mono hG) (by omega)) rfl ?_;clear H;rintro v8 G8 a w mU ql H;exact fin H ql (mU)
  ·refine eB [] rfl trivial (by kernel_rfl) dS rfl rfl ?_;intro bE a w G1 hG HT H fin;exact kH H (Rf oL rfl fun _ H=>fin H iJ rfl)
  ·refine eB [(6,9,_)] rfl ⟨fun _ _ h=>h,aC⟩ (by kernel_rfl) dS rfl rfl ?_;intro bE a w G1 hG HT H fin;exact kH H (Ro oV 1 rfl fun _ H=>fin H iJ rfl)
  ·refine eB [(7,10,_)] rfl ⟨fun _ _ h=>h,aC⟩ (by kernel_rfl) dS rfl rfl ?_;intro bE a w G1 hG HT H fin;refine s_call Y1 H wn rfl (agY _ _ H.ro x.rows _ _ (hr.mono hG) (by omega) (fun y hy=>ags ih hn y (by have:=WU hy;omega))) rfl ?_;clear H;rintro v11 tO a w xE lW H;exact fin H lW (xE)
  refine eB [] rfl trivial (by kernel_rfl) dS rfl rfl ?_;intro bE a w G1 hG HT H fin;exact kH H (Rf yE rfl fun _ H=>fin H iJ rfl)
 clear H;intro a w G nA H hv;obtain ⟨u5,GX,rF⟩:=hv 2 5 (by decide) rfl;(try dsimp only at rF);obtain ⟨p5,d5,l5,rfl,tJ⟩:=rF;obtain ⟨a1,a2,a3,rfl⟩:=tJ.props.form;obtain ⟨a4,a5,a6,rfl⟩:=tJ.bJ.form;obtain ⟨a7,a8,a9,rfl⟩:=tJ.layers.form;have H:=H.jV GX;obtain ⟨u8,AU,mU⟩:=hv 5 8 (by decide) rfl;(try dsimp only at mU);obtain ⟨A8,n8,c8,rfl⟩:=mU.form;have H:=H.jV AU;obtain ⟨Wz,GV,xE⟩:=hv 8 11 (by decide) rfl;(try dsimp only at xE);obtain ⟨A11,n11,c11,rfl⟩:=xE.form;have H:=H.jV GV;have H:=H.aM (hv 9 12 rfl rfl) rfl;clear hv;refine aY eO 1 (vs:=[_,_,_,_,_]) _ H wn rfl rfl rfl rfl rfl rfl rfl rfl ?_;clear H;intro w H;dsimp only [List.set,setRow] at H;refine kH H (Rf Ah rfl ?_);clear H;intro a H;refine aY kg 1 (vs:=[_]) _ H wn rfl rfl rfl rfl rfl rfl rfl rfl ?_;clear H;intro w H;dsimp only [List.set,setRow] at H;refine kH H (Rf oL rfl ?_);clear H;intro a H;refine aY oV 1 (vs:=[_]) _ H wn rfl rfl rfl rfl rfl rfl rfl rfl ?_;clear H;intro w H;dsimp only [List.set,setRow] at H;refine aD ⟨rfl,?_⟩;refine K2 _ _ ?_;clear K2;refine bZ (fun _ K3=>?_);refine bB dL (cs:=[_,_,_,_,_,_,_,_,_,_,_]) H wn rfl rfl (H.hp.bU 1 rfl rfl) rfl ?_;clear H;intro a H;refine aY dL 0 (vs:=[_,_,_,_,_,_,_,_,_,_,_]) _ H wn rfl rfl rfl rfl rfl rfl rfl rfl ?_;clear H;intro w H;dsimp only [List.set,setRow] at H;refine K3 _ _ ?_;clear K3;refine bS ?_;refine (leave1 H results141 (.cons (ng dL (cs:=[_,_,_,_,_,_,_,_,_,_,_]) H rfl rfl (H.hp.bU 0 rfl rfl)) .nil) ?_).1;exact H.rt ⟨_,rfl,aR.mkItem tJ mU xE⟩
theorem Yo {n:Nat} (ih:Fx n) (hn:n≤4294967296) {G:GH} {w0:World} (x:ay) (hz:bT x.dat < n+1):Il (.func (.func 141) #[] #[]) w0 G x.dat:=by
 intro G1 w1 cs hm1 hG1 hr;have h:=aga ih hn _ _ hG1 x cs hr hz;have h2:=jI (P:=prog) (caps:=[]) (args:=[.agg cs.toArray]) ahw h;exact h2
theorem NT:∀ n:Nat,n≤4294967297→Fx n
 | 0,_=>fun _ _ _ _ _ _ h=>absurd h (by omega)
 | n+1,hn=>by
  intro G w0 hG l v hv hz;have ih:=NT n (by omega);have hl:=Ih l;refine eN [(0,_)] func80 rfl ntmps80 rfl rfl hG ?_;intro a H;refine kP H (SR fun _ K1=>ak K1 rfl (SR fun _ K2=>Rm rfl ?_));clear H K1;intro a H;refine s_call Y4 H wn rfl (agV _ _ H.ro l _ _ hv (by omega) (fun y hy=>Yo ih (by omega) y (by have:=Qw hy;omega))) rfl ?_;clear H;rintro v4 G4 a w UH Dj H;exact kH H (ak K2 rfl (LR results80 rfl fun H=>H.rt UH))
theorem agv (G:GH) (w0:World) (hG:Hold G w0) (l:List ay) (v:aj) (hv:av G (.sl 11 (l.map ay.dat)) v) (hz:bV l≤4294967296) :
  Calls prog 80 #[v] w0 (bH w0 G fun u G'=>av G' (.sl 11 (l.map ay.dat)) u):=NT 4294967297 (by omega) G w0 hG l v hv (by omega)
section
section
variable {P:Program} {N:Nat} {D:List Deferred} {w0 w w':World} {F:Nat→Prop} {G0 G G':GH} {L L' Li Lo:OL} {T:List (Nat × aj)} {a a':Act} {Q:Exit→Act→World→Prop}
theorem St.cast (h:St N D w0 F G0 G L T a w) (e:L=L'):St N D w0 F G0 G L' T a w:=e ▸ h
theorem St.assoc {A B C:OL} (h:St N D w0 F G0 G ((A++B)++C) T a w):St N D w0 F G0 G (A++(B++C)) T a w:=h.cast (iI _ _ _)
theorem St.un {A B C:OL} (h:St N D w0 F G0 G (A++(B++C)) T a w):St N D w0 F G0 G ((A++B)++C) T a w:=h.cast (iI _ _ _).symm
theorem St.JD {A B:OL} (h:St N D w0 F G0 G (A++B) T a w):St N D w0 F G0 G (A++(B++[])) T a w:=h.cast (by rw [jd])
theorem FP {ι κ:Type} {Lc:OL} {Aj:Operand} {ps:List Nat} {assign body:Code} {gf:FuncId} {caps:List aj} {xs:List AP} {Gi:GH}
  (Lv:Nat→ι→OL) (Lt:Nat→ι→OL) (inv:Nat→ι→GH→Prop) (cx:κ→Code) (Lx FH:κ→OL) (AX:κ→GH→Prop) (i0:ι)
  (H:St N D w0 F G0 G (Lc++Lv 0 i0++Lt 0 i0) T a w) (hg:ev T Aj=some (.func (.func gf) #[] caps.toArray)) (en:∀ args w,(callFunc gf args).run P w=.ok (.enter gf args) w) (hit:Iter P Gi (.func (.func gf) #[] caps.toArray) xs) (hGi:∀ b o,Gi b=some o→G b=some o)
  (hps:ps.all (Nat.blt · N)=true) (hlen:∀ k args g,xW xs k args g→args.length=ps.length) (hinv:∀ k i (G G':GH),(∀ b o,G b=some o→G' b=some o)→inv k i G→inv k i G') (Us:∀ x (G G':GH),(∀ b o,G b=some o→G' b=some o)→AX x G→AX x G') (h0:inv 0 i0 G)
  (round:∀ (l:Nat) (yT vY:Obj) (bk:OL) (k:Nat) (args:List aj) (i:ι) (G1:GH) (w1:World) (F1:Nat→Prop) (B1:Code→Exit→Act→World→Prop) (a1:Act),xW xs k args G1→(∀ b o,G b=some o→G1 b=some o)→inv k i G1 →
   (∀ T' G2 L2 a2 w2 c,St N [] w1 F1 G1 G2 ((l,yT) :: L2) T' a2 w2→(∀ w3,St N [] w1 F1 G1 G2 ((l,vY) :: L2) T' a2 w3→WP (some l) P c (B1 c) a2 w3)→Exit.then (fun a2 w2=>∃ w3,(Instr.beginRound l).run P w2=.ok () w3∧c.wpIn (FW (some l)) 0 P (B1 c) a2 w3) (fun _ _ _=>False) .normal a2 w2) →
   (∀ i' T' G2 a2 w2 c,St N [] w1 F1 G1 G2 ((l,vY) :: (Lc++Lv (k+1) i'++(bk++Lt (k+1) i'))) T' a2 w2→inv (k+1) i' G2→B1 c .normal a2 w2) →
   (∀ x T' G2 a2 w2 c,St N [] w1 F1 G1 G2 ((l,vY) :: (Lc++Lx x++(bk++FH x))) T' a2 w2→AX x G2→(cx x=.ret→B1 c .ret a2 w2)∧∀ n,cx x=.exit n→B1 c (.exit n) a2 w2) →
   St N [] w1 F1 G1 G1 ((l,yT) :: (Lc++Lv k i++(bk++Lt k i))) (uW ps args T) a1 w1 →
   WP (some l) P assign (Exit.then (fun a2 w2=>∃ w3,(Instr.beginRound l).run P w2=.ok () w3∧body.wpIn (FW (some l)) 0 P (B1 body) a2 w3) (fun _ _ _=>False)) a1 w1)
  (hdone:∀ Dk i G1 a1 w1,(∀ b o,G b=some o→G1 b=some o)→inv xs.length i G1→St N ({ target:=.collected Dk,args:=#[] } :: D) w0 F G0 G1 ((Dk,.deferred (some [])) :: (Lc++Lv xs.length i++Lt xs.length i)) T a1 w1→Q .normal a1 w1)
  (hstop:∀ Dk x G1 a1 w1,(∀ b o,G b=some o→G1 b=some o)→AX x G1→St N ({ target:=.collected Dk,args:=#[] } :: D) w0 F G0 G1 ((Dk,.deferred (some [])) :: (Lc++Lx x++FH x)) T a1 w1→WP none P (cx x) Q a1 w1) :
  WP none P (.rangeFunc Aj ps.toArray assign body) Q a w:=by
 refine afr (J:=fun k g L=>∃ i,L=Lc++Lv k i++Lt k i∧inv k i g) (Jx:=fun c g L=>∃ x,c=cx x∧L=Lc++Lx x++FH x∧AX x g) H hg en hit hGi hps hlen (fun k G G' L hm ⟨i,e,h⟩=>⟨i,e,hinv k i G G' hm h⟩) (fun c G G' L hm ⟨x,e1,e2,h⟩=>⟨x,e1,e2,Us x G G' hm h⟩) ⟨i0,rfl,h0⟩ ?_ ?_ ?_
 ·rintro l q bk k args G1 L1 w1 a1 hk hm ⟨i,rfl,hi⟩ H1
  have pm:∀ A B:OL,(bk++(A++B)).Perm (A++(bk++B)):=fun A B=>by
   rw [← iI,← iI]
   exact List.Perm.append_right B vX
  refine round l (q.at .ready none) (q.at .busy none) bk k args i G1 w1 _ (fun _=>roundPost P l _) a1 hk hm hi ?_ ?_ ?_ (H1.perm (List.Perm.cons _ (pm _ _)))
  ·intro T' G2 L2 a2 w2 c H2 h
   exact Ye H2 h
  ·intro i' T' G2 a2 w2 c H2 h2
   exact JJ none (H2.perm (List.Perm.cons _ (pm _ _).symm)) ⟨_,rfl,i',rfl,h2⟩
  ·intro x T' G2 a2 w2 c H2 h2
   have H3:=H2.perm (List.Perm.cons _ (pm _ _).symm)
   refine ⟨fun e=>?_,fun n e=>?_⟩
   ·exact JJ (some .ret) H3 ⟨_,_,rfl,x,e.symm,rfl,h2⟩
   ·exact JJ (some (.exit n)) H3 ⟨_,_,rfl,x,e.symm,rfl,h2⟩
 ·rintro Dk G1 L1 a1 w1 hm ⟨i,rfl,hi⟩ H1
  exact hdone Dk i G1 a1 w1 hm hi H1
 ·rintro Dk c G1 L1 a1 w1 hm ⟨x,rfl,rfl,hx⟩ H1
  exact hstop Dk x G1 a1 w1 hm hx H1
def JB (ds:List Nat):List Deferred:=ds.map fun b=>{ target:=.collected b,args:=#[] }
def lZ (ds:List Nat):OL:=ds.map fun b=>(b,.deferred (some []))
theorem NK {r:Option Nat} {ι:Type} {c:Code} {Tc:List (Nat × aj)} {Lc:List (Nat × Obj)} (Dv:ι→List Deferred) (Tv:ι→List (Nat × aj)) (Lv:ι→List (Nat × Obj)) (Gv:ι→GH) (Pr:ι→Prop) (m:ι→Nat) (i0:ι)
  (H:St N (Dv i0) w0 F G0 (Gv i0) (Lc++Lv i0) (Tv i0++Tc) a w) (hP:Pr i0)
  (round:∀ i a w,Pr i→St N (Dv i) w0 F G0 (Gv i) (Lc++Lv i) (Tv i++Tc) a w →
   WP r P c (Exit.then (fun a' w'=>∃ i',(St N (Dv i') w0 F G0 (Gv i') (Lc++Lv i') (Tv i'++Tc) a' w'∧Pr i')∧m i' < m i) Q) a w):WP r P (.loop c) Q a w :=
 Yg (fun i a w=>St N (Dv i) w0 F G0 (Gv i) (Lc++Lv i) (Tv i++Tc) a w∧Pr i) m i0 ⟨H,hP⟩ fun i a w hI=>round i a w hI.2 hI.1
theorem Ho {ι:Type} {Dv:ι→List Deferred} {Tc:List (Nat × aj)} {Lc:List (Nat × Obj)} {Tv:ι→List (Nat × aj)} {Lv:ι→List (Nat × Obj)} {Gv:ι→GH} {Pr:ι→Prop} {m:ι→Nat} {i:ι} (i':ι)
  (H:St N (Dv i') w0 F G0 (Gv i') (Lc++Lv i') (Tv i'++Tc) a w) (hP:Pr i') (hm:m i' < m i) :
  ∃ i',(St N (Dv i') w0 F G0 (Gv i') (Lc++Lv i') (Tv i'++Tc) a w∧Pr i')∧m i' < m i:=⟨i',⟨H,hP⟩,hm⟩
theorem zJ {fn:Func} {R:Ending→World→Prop} {Lh Lt:OL}:∀ (ds:List Nat) {a:Act} {w:World},St N (JB ds) w0 F G0 G (Lh++(lZ ds++Lt)) T a w →
  (∀ a' w',St N [] w0 F G0 G (Lh++Lt) T a' w'→bodyPostM (FW none) 0 P fn R .ret a' w')→bodyPostM (FW none) 0 P fn R .ret a w∧bodyPostM (FW none) 0 P fn R .normal a w
 | [],a,w,H,k=>⟨k a w H,k a w H⟩
 | b :: ds,a,w,H,k=>by
  refine AY (b:=b) (D:=JB ds) H Lh.length (by rw [sW (bL _),Nat.sub_self];rfl) fun a' w' H'=>?_
  refine (zJ ds (Lh:=Lh) (Lt:=Lt) (H'.cast ?_) k).1
  rw [List.eraseIdx_append_of_length_le (bL _),Nat.sub_self];rfl
end
end
def n1 (x:ay):Nat:=if M0 x=0 then jy x else 0
theorem av.len {G:GH} {sz:Nat} {rows:List (List Dat)} {A:Option Addr} {n c:Nat} (h:av G (.sl sz rows) (.slice A n c)):n=rows.length:=h.cells.1
theorem av.at_ {G:GH} {sz:Nat} {rows:List (List Dat)} {A:Option Addr} {n c:Nat} (h:av G (.sl sz rows) (.slice A n c)):∀ k r,rows[k]?=some r→∃ b o cs,A=some ⟨b,o,none⟩∧cs.length=sz∧(∀ j u,cs[j]?=some u→aI G b (o+k*sz+j)=some u)∧aR G r cs:=by
 obtain ⟨A2,c2,e,_,_,hg⟩:=h.slice
 cases e;exact hg
theorem HZ {G:GH} {l:List aS} {A:Option Addr} {k:Nat} (hk:k < l.length) (hg:∀ k r,(l.map aS.dat)[k]?=some r→∃ b o cs,A=some ⟨b,o,none⟩∧cs.length=6∧(∀ j u,cs[j]?=some u→aI G b (o+k*6+j)=some u)∧aR G r cs) :
  ∃ b o pA pn pc dA dn dc yA yn yc cA cn cc,A=some ⟨b,o,none⟩∧(∀ j u,[.slice pA pn pc,vi l[k].head.marks.ins,vi l[k].head.marks.move,.slice dA dn dc,.slice yA yn yc,.slice cA cn cc][j]?=some u→aI G b (o+k*6+j)=some u) ∧
   jc G l[k].head (.slice pA pn pc) (.slice dA dn dc) (.slice yA yn yc)∧av G (.sl 7 (l[k].cells.map aT.dat)) (.slice cA cn cc):=by
 obtain ⟨b,o,cs,h1,h2,h3,h4⟩:=hg k l[k].dat (by simp [hk]);obtain ⟨pA,pn,pc,dA,dn,dc,yA,yn,yc,cA,cn,cc,rfl,h5,h6⟩:=h4.row;exact ⟨b,o,pA,pn,pc,dA,dn,dc,yA,yn,yc,cA,cn,cc,h1,h3,h5,h6⟩
theorem CY {G:GH} {l:List aT} {A:Option Addr} {k:Nat} (hk:k < l.length) (hg:∀ k r,(l.map aT.dat)[k]?=some r→∃ b o cs,A=some ⟨b,o,none⟩∧cs.length=7∧(∀ j u,cs[j]?=some u→aI G b (o+k*7+j)=some u)∧aR G r cs) :
  ∃ b o pA pn pc dA dn dc yA yn yc fA fn fc,A=some ⟨b,o,none⟩∧(∀ j u,[vi l[k].id,.slice pA pn pc,vi l[k].head.marks.ins,vi l[k].head.marks.move,.slice dA dn dc,.slice yA yn yc,.slice fA fn fc][j]?=some u→aI G b (o+k*7+j)=some u) ∧
   jc G l[k].head (.slice pA pn pc) (.slice dA dn dc) (.slice yA yn yc)∧av G (.sl 11 (l[k].flow.map ay.dat)) (.slice fA fn fc):=by
 obtain ⟨b,o,cs,h1,h2,h3,h4⟩:=hg k l[k].dat (by simp [hk]);obtain ⟨pA,pn,pc,dA,dn,dc,yA,yn,yc,fA,fn,fc,rfl,h5,h6⟩:=h4.cell;exact ⟨b,o,pA,pn,pc,dA,dn,dc,yA,yn,yc,fA,fn,fc,h1,h3,h5,h6⟩
structure jM where
 (f p d y r s1 s2 s3 s4:Option Addr × Nat × Nat)
 (ins move:Int)
abbrev cK (x:Option Addr × Nat × Nat):aj:=.slice x.1 x.2.1 x.2.2
abbrev jM.cells (D:jM):List aj:=[cK D.f,cK D.p,vi D.ins,vi D.move,cK D.d,cK D.y,cK D.r,cK D.s1,cK D.s2,cK D.s3,cK D.s4]
abbrev jM.val (D:jM):aj:=.agg D.cells.toArray
theorem adI:Ty prog 129 3 16 [.bool false,.bool false,.int .i64 0] true:=⟨by kernel_rfl,by kernel_rfl⟩
theorem I8:dN prog 68 2 2:=⟨by kernel_rfl⟩
theorem Sv:dN prog 129 2 2:=⟨by kernel_rfl⟩
theorem ML:qd prog 129 [(0,1),(1,1),(2,1)] [.bool false,.bool false,.int .i64 0]:=⟨by kernel_rfl,by kernel_rfl⟩
theorem Zz:dN prog 129 1 1:=⟨by kernel_rfl⟩
theorem pV:Ty prog 4 1 1 [.bool false] false:=⟨by kernel_rfl,by kernel_rfl⟩
theorem wo:dN prog 38 0 0:=⟨by kernel_rfl⟩
structure qC where
 id:Int
 items:List ay
 body:Bool
 note:Bool
 tables:Int
mutual
def M8 (note:Bool) (t:Int):ay→List qC
 | .mk k _ i _ _ f r=>if k=6 then ⟨i,f,false,true,t⟩ :: Cz true t f else if k=7 then Fu note t r else []
def Cz (note:Bool) (t:Int):List ay→List qC
 | []=>[]
 | x :: l=>M8 note t x++Cz note t l
def Fu (note:Bool) (t:Int):List aS→List qC
 | []=>[]
 | r :: l=>M9 note t r++Fu note t l
def M9 (note:Bool) (t:Int):aS→List qC
 | .mk _ cs=>Fq note t cs
def Fq (note:Bool) (t:Int):List aT→List qC
 | []=>[]
 | c :: l=>M7 note t c++Fq note t l
def M7 (note:Bool) (t:Int):aT→List qC
 | .mk i _ f=>⟨i,f,false,note,t+1⟩ :: Cz note (t+1) f
end
def Jb (l:List ay):List qC:=⟨0,l,true,false,0⟩ :: Cz false 0 l
theorem ko:Ty prog 38 11 232 [.slice none 0 0,.slice none 0 0,.int .i64 0,.int .i64 0,.slice none 0 0,.slice none 0 0,.slice none 0 0,.slice none 0 0,.slice none 0 0,.slice none 0 0,.slice none 0 0] true:=⟨by kernel_rfl,by kernel_rfl⟩
theorem akg {α:Type} {p:α→Bool} {A:List α} {k:Nat} (hk:k < A.length) (h:(A.take k).find? p=none) (hp:p A[k]=false):(A.take (k+1)).find? p=none:=by
 rw [iH hk,List.find?_append,h]
 simp [hp]
theorem akh {α:Type} {p:α→Bool} {A:List α} {k:Nat} (hk:k < A.length) (h:(A.take k).find? p=none) (hp:p A[k]=true):A.find? p=some A[k]:=by
 have e:A.find? p=(A.take k++A.drop k).find? p:=by rw [List.take_append_drop]
 rw [e,List.find?_append,h,oh hk,List.find?_cons,hp]
 rfl
theorem ake {α:Type} {p:α→Bool} {A:List α} (h:(A.take A.length).find? p=none):A.find? p=none:=by rwa [tX] at h
theorem Cj {α:Type} {p:α→Bool} {A:List α} {k:Nat} (hk:k < A.length) (h:(A.take k).findIdx? p=none) (hp:p A[k]=false):(A.take (k+1)).findIdx? p=none:=by
 rw [List.findIdx?_eq_none_iff] at h ⊢;rw [iH hk];intro x hx
 rcases oJ.1 hx with hx|hx
 ·exact h x hx
 rw [tV.1 hx];exact hp
theorem sN {α:Type} {p:α→Bool} {A:List α} {k:Nat} (hk:k < A.length) (h:(A.take k).findIdx? p=none) (hp:p A[k]=true):A.findIdx? p=some k:=by
 have e:A.findIdx? p=(A.take k++A.drop k).findIdx? p:=by rw [List.take_append_drop]
 rw [e,List.findIdx?_append,h,oh hk,List.findIdx?_cons,hp]
 simp;omega
theorem R3:∀ args w,(callFunc 147 args).run prog w=.ok (.enter 147 args) w:=enters func147 rfl (by kernel_rfl)
theorem Od:∀ args w,(callFunc 205 args).run prog w=.ok (.enter 205 args) w:=enters func205 rfl (by kernel_rfl)
theorem sP:Ty prog 155 2 16 [.int .i64 0,.int .i64 0] true:=⟨by kernel_rfl,by kernel_rfl⟩
theorem Ib:Ty prog 227 1 8 [.nilFunc] false:=⟨by kernel_rfl,by kernel_rfl⟩
theorem arO:qd prog 155 [(0,1),(1,1)] [.int .i64 0,.int .i64 0]:=⟨by kernel_rfl,by kernel_rfl⟩
theorem Za:∀ args w,(callFunc 206 args).run prog w=.ok (.enter 206 args) w:=enters func206 rfl (by kernel_rfl)
theorem Sc:∀ args w,(callFunc 229 args).run prog w=.ok (.enter 229 args) w:=enters func229 rfl (by kernel_rfl)
def uT (x:ay):Nat:=if x.kind=1 then rZ x.text else 1
mutual
def MF (flow at_:Int):ay→List ((Int × Int) × ay)
 | .mk k c i t h f r=>if k=6 then ((flow,at_),.mk k c i t h f r) :: nJ i 0 f else if k=7 then ((flow,at_),.mk k c i t h f r) :: EZ r else []
/-- The notes and tables of a flow, and those in them, with their positions. -/
def nJ (flow:Int):Int→List ay→List ((Int × Int) × ay)
 | _,[]=>[]
 | at_,x :: l=>MF flow at_ x++nJ flow (at_+uT x) l
def EZ:List aS→List ((Int × Int) × ay)
 | []=>[]
 | r :: l=>MG r++EZ l
def MG:aS→List ((Int × Int) × ay)
 | .mk _ cs=>lI cs
def lI:List aT→List ((Int × Int) × ay)
 | []=>[]
 | c :: l=>JI c++lI l
def JI:aT→List ((Int × Int) × ay)
 | .mk i _ f=>nJ i 0 f
end
def kJ (x:ay):List aT:=if x.kind=7 then x.rows.flatMap aS.cells else [.mk x.id ⟨[],⟨0,0,[],[]⟩⟩ x.flow]
theorem apa (x:aT):JI x=nJ x.id 0 x.flow:=by cases x;simp [JI,aT.id,aT.flow]
theorem apb (x:aS):MG x=lI x.cells:=by cases x;simp [MG,aS.cells]
theorem acp:∀ a b:List aT,lI (a++b)=lI a++lI b
 | [],b=>by simp [lI]
 | x :: a,b=>by simp [lI,acp a b]
theorem acs:∀ l:List aS,EZ l=lI (l.flatMap aS.cells)
 | []=>by simp [EZ,lI]
 | x :: l=>by simp [EZ,apb,acp,acs l]
theorem PG (flow at_:Int) (x:ay):MF flow at_ x=if x.kind=6∨x.kind=7 then ((flow,at_),x) :: lI (kJ x) else []:=by
 obtain ⟨k,c,i,t,h,f,r⟩:=x
 simp only [MF,kJ,ay.kind,ay.rows,ay.id,ay.flow]
 by_cases h6:k=6
 ·subst h6;simp [lI,JI]
 by_cases h7:k=7
 ·subst h7;simp [acs]
 simp [h6,h7]
theorem abu {x:ay} {c:aT} (h:c∈kJ x):bV c.flow < bT x.dat:=by
 have h4:=tN x
 unfold kJ at h
 split at h
 ·obtain ⟨r,hr,hc⟩:=List.mem_flatMap.1 h;have h1:=WU hr;have h2:=WR hc;have h3:=zW r;have h5:=Bt c
  omega
 rw [tV.1 h];show bV x.flow < _;omega
def wN (a:(Int × Int) × ay):AP:=fun args g=>∃ cs,args=[.agg #[vi a.1.1,vi a.1.2],.agg cs.toArray]∧aR g a.2.dat cs
theorem zK {A:List ((Int × Int) × ay)} {k:Nat} {args:List aj} {g:GH} (h:xW (A.map wN) k args g):∃ (hk:k < A.length) (cs:List aj),args=[.agg #[vi A[k].1.1,vi A[k].1.2],.agg cs.toArray]∧aR g A[k].2.dat cs:=by
 obtain ⟨p,hp,hargs⟩:=h;rw [pE] at hp;obtain ⟨q,hq,rfl⟩:=qg.1 hp;obtain ⟨hk,rfl⟩:=jH.1 hq;exact ⟨hk,hargs⟩
def Iz (n:Nat):Prop:=∀ (G:GH) (l:List ay) (id:Int) (bl bi:Nat) (v:aj),bV l < n→aI G bl 0=some v→aI G bi 0=some (vi id)→av G (.sl 11 (l.map ay.dat)) v →
 Iter prog G (.func (.func 205) #[] #[(aK bl 0),(aK bi 0)]) ((nJ id 0 l).map wN)
theorem VN {n:Nat} (ih:Iz n) (G:GH) (w0:World) (hG:Hold G w0) (l:List ay) (id:Int) (v:aj) (hz:bV l < n) (hv:av G (.sl 11 (l.map ay.dat)) v) :
  Calls prog 147 #[vi id,v] w0 (bH w0 G fun u G'=>∃ bl bi,u=.func (.func 205) #[] #[(aK bl 0),(aK bi 0)]∧Iter prog G' u ((nJ id 0 l).map wN)):=by
 obtain ⟨A,c,rfl,hc1,hc2,hg⟩:=hv.slice;refine eN [(0,_),(1,_)] func147 rfl ntmps147 rfl rfl hG ?_;intro a H;refine bZ (fun _ K1=>?_);refine dZ (cs:=[_]) H wn rfl rfl rfl ?_;clear H;intro b2 a w hb2 H;refine dZ (cs:=[_]) H wn rfl rfl rfl ?_;clear H;intro b3 a w hb3 H;refine kH H (ak K1 rfl (SR fun _ K2=>?_));clear H K1;intro a H;refine oQ H wn rfl rfl ?_;clear H;intro a H;refine kH H (ak K2 rfl ?_);clear H K2;intro a H;refine bS ?_;obtain ⟨G2,hm2,hb3,H⟩:=H.eH;obtain ⟨G3,Ay,hb2,H⟩:=H.eH;refine lv H results147 rfl ?_;exact H.rt ⟨b3,b2,rfl,ih _ _ _ _ _ _ hz (aJ Ay (by unfold aI;rw [hb3];rfl)) (by unfold aI;rw [hb2];rfl) (hv.mono fun b o h=>Ay _ _ (hm2 _ _ h))⟩
theorem SN:∀ l:List aS,(l.flatMap aS.cells).length≤gD l
 | []=>bL _
 | x :: l=>by
  have h1:=SN l;have h2:=Fv x.cells;have h3:=zW x
  simp only [List.flatMap_cons,iN,gD,fO,dV] at *;omega
theorem asW (l:List aS) (k:Nat):gD (l.take k)≤gD l:=by
 have h:gD l=gD (l.take k++l.drop k):=by rw [List.take_append_drop]
 rw [h];simp only [gD,kY,H9];omega
theorem acr (c:aT) (l:List aT):lI (c :: l)=nJ c.id 0 c.flow++lI l:=by rw [lI,apa]
set_option maxHeartbeats 1000000 in
theorem asQ {n:Nat} (ih:Iz n) (hn:n≤4294967296) {G:GH} {x:ay} {bx:Nat} {cs:List aj} (hsz:bT x.dat≤n) (hb:G bx=some (.cells cs.toArray 68 (0,0))) (hv:aR G x.dat cs) :
  Iter prog G (.func (.func 229) #[] #[(aK bx 0)]) ((lI (kJ x)).map wN):=by
 intro J Jx fv G1 L w0 GI hGi om hJx hJ hO hcb;refine jI (caps:=[(aK bx 0)]) Sc ?_;obtain ⟨pA,pn,pc,dA,dn,dc,yA,yn,yc,fA,fn,fc,rA,rn,rc,rfl,hh,hf,hr⟩:=hv.item;have hsz1:=tN x;have hrn:=hr.len;rw [aZ] at hrn;subst hrn;have hrs:=D6 x.rows
 have hrow:∀ j u,[vi x.kind,vi x.code,vi x.id,.string x.text,.slice pA pn pc,vi x.head.marks.ins,vi x.head.marks.move,.slice dA dn dc,.slice yA yn yc,.slice fA fn fc,.slice rA x.rows.length rc][j]?=some u→aI G1 bx (0+j)=some u:=by
  intro j u hj;refine aJ hGi ?_
  unfold aI;rw [hb];simpa using hj
 have hfc:aI G1 bx 0=some (vi x.kind)∧aI G1 bx 2=some (vi x.id)∧aI G1 bx 9=some (.slice fA fn fc)∧aI G1 bx 10=some (.slice rA x.rows.length rc):=⟨hrow 0 _ rfl,hrow 2 _ rfl,hrow 9 _ rfl,hrow 10 _ rfl⟩;obtain ⟨hc0,hc2,hc9,atU⟩:=hfc
 have hml:4294967297≤maxLen:=by decide
 refine iY (N:=50) (T:=[(0,_),(1,_)]) func229 rfl ntmps229 rfl rfl hO ?_;intro a H;refine bZ (fun _ K1=>?_);refine dZ (cs:=[fv]) H wn rfl GI rfl ?_;clear H;intro b2 a w hb2 H;refine K1 _ _ ?_;clear K1;refine kP H (SR fun _ K2=>Rf I8 rfl (Rg aH rfl (by assumption) ?_));clear H;intro a H;refine kH H (Rf Ah rfl (Rg kg rfl (by assumption) ?_));clear H;intro a H;refine jv Qh [_,_,_,_,_,_,_] H wn rfl rfl rfl rfl ?_;clear H;intro a H;refine ig lu iQ [_,_,_,_,_,_,_] [_,_,_,_,_,_,_] H wn rfl rfl rfl rfl rfl (by intro i q h;match i,h with|0,h=>exact h|n+1,h=>simp at h) rfl rfl ?_;clear H;intro b15 a w aae H;refine kH H (ak K2 rfl (SQ fun _ K3=>SR fun _ K4=>Rf kG rfl (Rg aH rfl (by assumption) ?_)));clear H K2;intro a H;refine kH H (Rc rfl (Kz K4 (Cd rfl ?_ ?_))) <;> clear H K4
 ·intro h18 a H
  try have tL:=dT h18
  refine kP H (SR fun _ K5=>ak K5 rfl (SR fun _ K6=>Rf oL rfl (Rg oV rfl (by assumption) ?_)));clear H K5;intro a H;refine kH H (Rl kT rfl (Rm rfl (Kz K6 (SB ?_))));clear H K6;intro a H;skip;refine fH (ι:=Nat × aj × List aj × OL) (Tc:=[(2,_),(20,_),(21,_)]) (Lc:=[(_,_)]) (fun gh=>[(3,gh.2.1),(22,vi gh.1)]) (fun gh=>[]++(L++gh.2.2.2)) (fun gh=>G1) (fun gh=>gh.1≤x.rows.length∧bY 76 7 gh.2.1 ((x.rows.take gh.1).flatMap aS.cells).length gh.2.2.1 gh.2.2.2∧bR G1 7 (((x.rows.take gh.1).flatMap aS.cells).map aT.dat) gh.2.2.1) (fun gh=>x.rows.length - gh.1) ((0,.slice none 0 0,[],[])) (by exact (St.JD (A:=[_]) (H.dG (Pl:=[_,_]) (cZ:=[_]) [1] (by decide) rfl)).sub ⟨rfl,rfl,rfl,rfl,rfl,aC⟩) ?_ ?_
  ·exact ⟨by omega,bY.nil,by simpa using bR.nil⟩
  clear H;rintro ⟨rk,v3,xs,Lo⟩ a w hI H;dsimp only at hI H;obtain ⟨hrk,hrw3,dP⟩:=hI;dsimp only [lca,bq] at H;refine kP H (SR fun _ K7=>Rc rfl (Kz K7 (SQ fun _ K8=>Cd rfl ?_ ?_))) <;> clear H K7
  ·intro h23 a H
   try have vJ:=dT h23
   have hk2:rk < x.rows.length:=by omega
   obtain ⟨b,o,qA,qn,qc,eA,en,ec,zA,zn,zc,cA,cn,cc,rfl,hrow,Ch,hcl⟩:=HZ hk2 hr.at_;replace hrow:=fun j u hj=>aJ hGi (hrow j u hj);have aak:=hcl.len;rw [aZ] at aak;subst aak;have hsz2:=SN (x.rows.take (rk+1));have abb:=asW x.rows (rk+1);rw [iH hk2,List.flatMap_append,iN,List.flatMap_singleton] at hsz2;rw [iH hk2] at abb;refine kP H (Kc K8 (SQ fun _ K9=>SB (SR fun _ aW=>Ri kT iW rfl rfl ?_)));clear H K8;intro a H;refine bB iW (cs:=[_,_,_,_,_,_]) H wn rfl rfl (fun j v hj=>H.hp.aI (hrow j v hj)) rfl ?_;clear H;intro a H;refine dB iW H wn rfl ?_;clear H;intro b5 a w hb5 H;refine aY iW 0 (vs:=[_,_,_,_,_,_]) _ H wn rfl rfl rfl rfl rfl rfl rfl rfl ?_;clear H;intro w H;dsimp only [List.set,setRow] at H;refine aW _ _ ?_;clear aW;refine kP H (SC (Rm rfl (bG uh uP 0 rfl rfl ?_)));clear H;intro a H;refine aqs (Li:=[_,_]++L) (Lo:=Lo) lu iQ rfl rfl (St.un (A:=[_,_]) H) wn rfl rfl hrw3 (hcl.mono hGi) (by omega) (by omega) rfl ?_;clear H;intro v29 aeD news a w amI hcn H;refine kH H (Ra rfl ?_);clear H;intro a H;refine aD ?_;replace H:=H.assoc.dG (Pl:=[_,_]) (cZ:=[_]) [1] (by decide) rfl;refine K9 _ _ ?_;clear K9;refine kP H (SC (Rd rfl (Rm rfl ?_)));clear H;intro a H;refine aD ?_;refine dM ((rk+1,v29,xs++news,aeD)) (by exact H.sub ⟨rfl,rfl,rfl,rfl,rfl,aC⟩) ?_
   (try dsimp only);exact ⟨by omega,by rw [iH hk2,List.flatMap_append,iN,List.flatMap_singleton];exact amI,by rw [iH hk2,List.flatMap_append,kY,List.flatMap_singleton];exact dP.append hcn⟩
  intro h23 a H
  try have vJ:=dF h23
  have amC:rk=x.rows.length:=by omega
  subst amC;rw [tX] at hrw3 dP;obtain ⟨G3,Ay,hin,H⟩:=(St.un (A:=[_]) H).nQ (rows:=((x.rows.flatMap aS.cells)).map aT.dat) hrw3 (by simp) dP
  replace hin:av G3 (.sl 7 ((kJ x).map aT.dat)) v3:=by rw [kJ,au tL];exact hin
  obtain ⟨iA,ni,ic,rfl⟩:=hin.form;have UD:=hin.len;rw [aZ] at UD
  have hisz:(kJ x).length≤4294967296:=by
   have h1:=SN x.rows;rw [kJ,au tL];omega
  refine eu ?_;refine K3 _ _ ?_;clear K3;refine kP H (SR fun _ bO=>Rm rfl (Rl lu rfl (Rm rfl (Kz bO (SB ?_)))));clear H bO;intro a H;skip;refine NK (ι:=Nat × Nat × OL × GH × List Nat) (Tc:=[(2,_),(31,_),(32,_)]) (Lc:=[(_,_)]) (fun gh=>JB gh.2.2.2.2) (fun gh=>[(33,vi gh.1)]) (fun gh=>[]++(lZ gh.2.2.2.2++gh.2.2.1)) (fun gh=>gh.2.2.2.1) (fun gh=>gh.1≤(kJ x).length∧(∀ b o,G3 b=some o→gh.2.2.2.1 b=some o)∧Now ((lI (kJ x)).map wN) wN J (lI (kJ x)).length gh.2.1 (lI ((kJ x).drop gh.1)) gh.2.2.2.1 gh.2.2.1) (fun gh=>(kJ x).length - gh.1) ((0,0,L,G3,[])) (by exact (H).sub ⟨rfl,rfl,rfl,rfl,aC⟩) ?_ ?_
  ·exact ⟨by omega,fun _ _ h=>h,⟨om _ _ _ _ Ay hJ,fun i a h=>by rw [gJ,pE];rw [tY] at h;rw [h];rfl,by simp⟩⟩
  clear H;rintro ⟨ck,j1,Lt,g,ds⟩ a w hI H;dsimp only at hI H;obtain ⟨hck,hgm,dH⟩:=hI;dsimp only [lca,bq] at H;refine kP H (SR fun _ bW=>Rc rfl (Kz bW (SQ fun _ cB=>Cd rfl ?_ ?_))) <;> clear H bW
  ·intro fE a H
   try have p34:=dT fE
   have hk3:ck < (kJ x).length:=by omega
   obtain ⟨b,o,sA,sn,sc,tA,tn,tc,uA,un,uc,gA,gn,gc,Ur,hrow,hch,hcf⟩:=CY hk3 hin.at_;subst Ur;replace hrow:=fun j u hj=>aJ hgm (hrow j u hj);rw [oh hk3,acr] at dH;refine kP H (Kc cB (SQ fun _ dw=>SB (SR fun _ dR=>Ri lu iQ rfl rfl ?_)));clear H cB;intro a H;refine bB iQ (cs:=[_,_,_,_,_,_,_]) H wn rfl rfl (fun j v hj=>H.hp.aI (hrow j v hj)) rfl ?_;clear H;intro a H;refine dB iQ H wn rfl ?_;clear H;intro b7 a w zC H;refine aY iQ 0 (vs:=[_,_,_,_,_,_,_]) _ H wn rfl rfl rfl rfl rfl rfl rfl rfl ?_;clear H;intro w H;dsimp only [List.set,setRow] at H;refine dR _ _ ?_;clear dR;refine kP H (SR fun _ dW=>bG I9 aH 0 rfl rfl (bG Ew kg 0 rfl rfl ?_));clear H;intro a H;refine s_call R3 H wn rfl (VN ih _ _ H.ro (kJ x)[ck].flow (kJ x)[ck].id _ (by have:=abu (kN hk3);omega) (hcf.mono hgm)) rfl ?_;clear H;rintro v41 zZ a w ⟨bl,bi,rfl,hit⟩ nS H;refine dW _ _ ?_;clear dW;refine wY ?_;skip;refine FP (ι:=OL) (κ:=OL) (Lc:=[(_,_),(_,_)]) (fun (k:Nat) (gh:OL)=>[]) (fun (k:Nat) (gh:OL)=>(lZ ds++gh)) (fun (k:Nat) (gh:OL) (g:GH)=>J (j1+k) g gh) (fun (gx:OL)=>Code.ret) (fun (gx:OL)=>[]) (fun (gx:OL)=>(lZ ds++gx)) (fun (gx:OL) (g:GH)=>Jx g gx) (Lt) (by exact H) rfl Od (hit) (fun _ _ h=>h) rfl (fun k args g h=>by obtain ⟨_,_,rfl,_⟩:=zK h;rfl) (fun k i G G' hm h=>om _ _ _ _ hm h) (fun x G G' hm h=>hJx _ _ _ hm h) (om _ _ _ _ nS dH.now) ?_ ?_ ?_
   ·clear H;intro l13 yT vY bk k args qD Ea w13 F13 B13 a Ut vE hI Ub UA UQ H;obtain ⟨hk,KG,rfl,uD⟩:=zK Ut;obtain ⟨aA,an,ac,bA,bn,bc,KI,KP,KN,KQ,KU,KR,Mr,Mv,Ms,rfl,-⟩:=uD.item;dsimp only [uW,List.cons_append,List.nil_append] at H;refine bZ (fun _ dU=>?_);refine dB sP H wn rfl ?_;clear H;intro b8 a w Gy H;refine aY sP 0 (vs:=[_,_]) _ H wn rfl rfl rfl rfl rfl rfl rfl rfl ?_;clear H;intro w H;dsimp only [List.set,setRow] at H;refine dU _ _ ?_;clear dU;refine mP ?_;refine dB dL H wn rfl ?_;clear H;intro b9 a w zD H;refine aY dL 0 (vs:=[_,_,_,_,_,_,_,_,_,_,_]) _ H wn rfl rfl rfl rfl rfl rfl rfl rfl ?_;clear H;intro w H;dsimp only [List.set,setRow] at H;refine aD ?_;refine Ub _ _ _ _ _ _ (by exact H.dG (Pl:=[_,_,_,_,_]) (cZ:=[_,_,_,_,_]) [2,0,1,3,4] (by decide) rfl) ?_;clear H;intro w H;refine kP H (SB (SR fun _ eG=>Ro Ib 4 rfl ?_));clear H;intro a H;refine bB sP (cs:=[_,_]) H wn rfl rfl (H.hp.bU 2 rfl rfl) rfl ?_;clear H;intro a H;refine bB dL (cs:=[_,_,_,_,_,_,_,_,_,_,_]) H wn rfl rfl (H.hp.bU 1 rfl rfl) rfl ?_;clear H;intro a H;refine vM (Li:=([_,_,_,_,_]++bk)++lZ ds) (L:=qD) (St.un (A:=[_,_,_,_,_]++bk) (St.un (A:=[_,_,_,_,_]) H)) wn rfl rfl (hcb (j1+k) _ _ _ _ ⟨_,dH.part k _ (eD hk),_,rfl,uD⟩ (fun b o h=>vE b o (nS b o (hgm b o (Ay b o h)))) hI (Hp.owns (Li:=([_,_,_,_,_]++bk)++lZ ds) (St.un (A:=[_,_,_,_,_]++bk) (St.un (A:=[_,_,_,_,_]) H)).hp)) rfl ?_;clear H;rintro v47 Np Kl a w ⟨X5,rfl,hb1,hb2⟩ aaA H
    simp only [iI,lD,lK] at H
    refine kH H (Rn rfl (Kz eG (Cd rfl ?_ ?_))) <;> clear H eG
    ·intro h48 a H
     refine bS ?_;refine (UQ (Kl) _ _ _ _ _ (by exact H.dG (Pl:=[_,_,_,_,_]) (cZ:=[_,_,_]) [0,3,4] (by decide) rfl) ?_).1 rfl;exact hb2 (by simpa using h48)
    intro h48 a H
    refine fZ ?_;refine UA (Kl) _ _ _ _ _ (by exact H.dG (Pl:=[_,_,_,_,_]) (cZ:=[_,_,_]) [0,3,4] (by decide) rfl) ?_;exact hb1 (by simpa using h48)
   ·clear H;intro J6 qD Kg a w vE hI H;dsimp only [lca,bq] at H;refine dw _ _ ?_;clear dw;refine kP H (SC (Rd rfl (Rm rfl ?_)));clear H;intro a H;refine aD ?_;refine Ho ((ck+1,j1+(nJ (kJ x)[ck].id 0 (kJ x)[ck].flow).length,qD,Kg,J6 :: ds)) (by exact (H.dG (Pl:=[_,_,_]) (cZ:=[_,_]) [2,0] (by decide) rfl).sub ⟨rfl,rfl,rfl,rfl,aC⟩) ?_ ?_
    ·(try dsimp only);exact ⟨by omega,fun b o h=>vE b o (nS b o (hgm b o h)),dH.jump (by simpa using hI)⟩
    first|omega|(dsimp only;omega)
   clear H;intro J6 Lx Kg a w vE hI H;dsimp only [lca,bq] at H;refine bS ?_;refine (AY H 0 rfl ?_).1;clear H;intro a w H;dsimp only [List.eraseIdx_cons_succ,List.eraseIdx_cons_zero] at H;refine (zJ (Lh:=[_,_]) _ H ?_).1;clear H;intro a w H;dsimp only [lca,bq] at H;refine (leave0 H results229 ?_).1
   first
    | exact H.hp.gB (L':=Lx) (by repeat (first|exact fT _|apply List.Sublist.cons)) (.inr hI)
    | exact H.hp.gB (L':=Lt) (by repeat (first|exact fT _|apply List.Sublist.cons)) (.inl (by rw [jm (by omega),lI] at dH;have:=dH.len;simp only [List.length_nil,qh] at this;rw [aZ,← this];exact dH.now))
  intro fE a H
  try have p34:=dF fE
  refine eu ?_;refine (zJ (Lh:=[_]) _ H ?_).2;clear H;intro a w H;dsimp only [lca,bq] at H;refine (leave0 H results229 ?_).1
  first
   | exact H.hp.gB (L':=Lx) (by repeat (first|exact fT _|apply List.Sublist.cons)) (.inr hI)
   | exact H.hp.gB (L':=Lt) (by repeat (first|exact fT _|apply List.Sublist.cons)) (.inl (by rw [jm (by omega),lI] at dH;have:=dH.len;simp only [List.length_nil,qh] at this;rw [aZ,← this];exact dH.now))
 intro h18 a H
 try have tL:=dF h18
 obtain ⟨G3,Ay,hin,H⟩:=H.ZV (sz:=7) (d:=(aT.mk x.id ⟨[],⟨0,0,[],[]⟩⟩ x.flow).dat) rfl (aR.MB (x:=aT.mk x.id ⟨[],⟨0,0,[],[]⟩⟩ x.flow) ⟨av.iL rfl (by decide),av.iL rfl (by decide),av.iL rfl (by decide)⟩ (hf.mono hGi))
 replace hin:av G3 (.sl 7 ((kJ x).map aT.dat)) (.slice (some ⟨b15,0,none⟩) 1 1):=by rw [kJ,ah tL];exact hin
 obtain ⟨iA,hiA⟩:∃ z,z=some (Addr.mk b15 0 none):=⟨_,rfl⟩;obtain ⟨ni,hni⟩:∃ z,z=1:=⟨_,rfl⟩;obtain ⟨ic,hic⟩:∃ z,z=1:=⟨_,rfl⟩;rw [← hiA] at hin H;have UD:=hin.len;rw [aZ] at UD
 have hisz:(kJ x).length≤4294967296:=by omega
 refine kP H (Kc K3 (SR fun _ gu=>Rm rfl (Rl lu rfl (Rm rfl (Kz gu (SB ?_))))));clear H K3 gu;intro a H;skip;refine NK (ι:=Nat × Nat × OL × GH × List Nat) (Tc:=[(2,_),(31,_),(32,_)]) (Lc:=[(_,_)]) (fun gh=>JB gh.2.2.2.2) (fun gh=>[(33,vi gh.1)]) (fun gh=>[]++(lZ gh.2.2.2.2++gh.2.2.1)) (fun gh=>gh.2.2.2.1) (fun gh=>gh.1≤(kJ x).length∧(∀ b o,G3 b=some o→gh.2.2.2.1 b=some o)∧Now ((lI (kJ x)).map wN) wN J (lI (kJ x)).length gh.2.1 (lI ((kJ x).drop gh.1)) gh.2.2.2.1 gh.2.2.1) (fun gh=>(kJ x).length - gh.1) ((0,0,L,G3,[])) (by exact (H).sub ⟨rfl,rfl,rfl,rfl,aC⟩) ?_ ?_
 ·exact ⟨by omega,fun _ _ h=>h,⟨om _ _ _ _ Ay hJ,fun i a h=>by rw [gJ,pE];rw [tY] at h;rw [h];rfl,by simp⟩⟩
 clear H;rintro ⟨ck,j1,Lt,g,ds⟩ a w hI H;dsimp only at hI H;obtain ⟨hck,hgm,dH⟩:=hI;dsimp only [lca,bq] at H;refine kP H (SR fun _ fC=>Rc rfl (Kz fC (SQ fun _ gH=>Cd rfl ?_ ?_))) <;> clear H fC
 ·intro fE a H
  try have p34:=dT fE
  have hk3:ck < (kJ x).length:=by omega
  obtain ⟨b,o,sA,sn,sc,tA,tn,tc,uA,un,uc,gA,gn,gc,Ur,hrow,hch,hcf⟩:=CY hk3 hin.at_;subst Ur;replace hrow:=fun j u hj=>aJ hgm (hrow j u hj);rw [oh hk3,acr] at dH;refine kP H (Kc gH (SQ fun _ iC=>SB (SR fun _ jT=>Ri lu iQ rfl rfl ?_)));clear H gH;intro a H;refine bB iQ (cs:=[_,_,_,_,_,_,_]) H wn rfl rfl (fun j v hj=>H.hp.aI (hrow j v hj)) rfl ?_;clear H;intro a H;refine dB iQ H wn rfl ?_;clear H;intro b7 a w zC H;refine aY iQ 0 (vs:=[_,_,_,_,_,_,_]) _ H wn rfl rfl rfl rfl rfl rfl rfl rfl ?_;clear H;intro w H;dsimp only [List.set,setRow] at H;refine jT _ _ ?_;clear jT;refine kP H (SR fun _ jN=>bG I9 aH 0 rfl rfl (bG Ew kg 0 rfl rfl ?_));clear H;intro a H;refine s_call R3 H wn rfl (VN ih _ _ H.ro (kJ x)[ck].flow (kJ x)[ck].id _ (by have:=abu (kN hk3);omega) (hcf.mono hgm)) rfl ?_;clear H;rintro v41 zZ a w ⟨bl,bi,rfl,hit⟩ nS H;refine jN _ _ ?_;clear jN;refine wY ?_;skip;refine FP (ι:=OL) (κ:=OL) (Lc:=[(_,_),(_,_)]) (fun (k:Nat) (gh:OL)=>[]) (fun (k:Nat) (gh:OL)=>(lZ ds++gh)) (fun (k:Nat) (gh:OL) (g:GH)=>J (j1+k) g gh) (fun (gx:OL)=>Code.ret) (fun (gx:OL)=>[]) (fun (gx:OL)=>(lZ ds++gx)) (fun (gx:OL) (g:GH)=>Jx g gx) (Lt) (by exact H) rfl Od (hit) (fun _ _ h=>h) rfl (fun k args g h=>by obtain ⟨_,_,rfl,_⟩:=zK h;rfl) (fun k i G G' hm h=>om _ _ _ _ hm h) (fun x G G' hm h=>hJx _ _ _ hm h) (om _ _ _ _ nS dH.now) ?_ ?_ ?_
  ·clear H;intro l13 yT vY bk k args qD Ea w13 F13 B13 a Ut vE hI Ub UA UQ H;obtain ⟨hk,KG,rfl,uD⟩:=zK Ut;obtain ⟨aA,an,ac,bA,bn,bc,KI,KP,KN,KQ,KU,KR,Mr,Mv,Ms,rfl,-⟩:=uD.item;dsimp only [uW,List.cons_append,List.nil_append] at H;refine bZ (fun _ jO=>?_);refine dB sP H wn rfl ?_;clear H;intro b8 a w Gy H;refine aY sP 0 (vs:=[_,_]) _ H wn rfl rfl rfl rfl rfl rfl rfl rfl ?_;clear H;intro w H;dsimp only [List.set,setRow] at H;refine jO _ _ ?_;clear jO;refine mP ?_;refine dB dL H wn rfl ?_;clear H;intro b9 a w zD H;refine aY dL 0 (vs:=[_,_,_,_,_,_,_,_,_,_,_]) _ H wn rfl rfl rfl rfl rfl rfl rfl rfl ?_;clear H;intro w H;dsimp only [List.set,setRow] at H;refine aD ?_;refine Ub _ _ _ _ _ _ (by exact H.dG (Pl:=[_,_,_,_,_]) (cZ:=[_,_,_,_,_]) [2,0,1,3,4] (by decide) rfl) ?_;clear H;intro w H;refine kP H (SB (SR fun _ kU=>Ro Ib 4 rfl ?_));clear H;intro a H;refine bB sP (cs:=[_,_]) H wn rfl rfl (H.hp.bU 2 rfl rfl) rfl ?_;clear H;intro a H;refine bB dL (cs:=[_,_,_,_,_,_,_,_,_,_,_]) H wn rfl rfl (H.hp.bU 1 rfl rfl) rfl ?_;clear H;intro a H;refine vM (Li:=([_,_,_,_,_]++bk)++lZ ds) (L:=qD) (St.un (A:=[_,_,_,_,_]++bk) (St.un (A:=[_,_,_,_,_]) H)) wn rfl rfl (hcb (j1+k) _ _ _ _ ⟨_,dH.part k _ (eD hk),_,rfl,uD⟩ (fun b o h=>vE b o (nS b o (hgm b o (Ay b o h)))) hI (Hp.owns (Li:=([_,_,_,_,_]++bk)++lZ ds) (St.un (A:=[_,_,_,_,_]++bk) (St.un (A:=[_,_,_,_,_]) H)).hp)) rfl ?_;clear H;rintro v47 Np Kl a w ⟨X5,rfl,hb1,hb2⟩ aaA H
   simp only [iI,lD,lK] at H
   refine kH H (Rn rfl (Kz kU (Cd rfl ?_ ?_))) <;> clear H kU
   ·intro h48 a H
    refine bS ?_;refine (UQ (Kl) _ _ _ _ _ (by exact H.dG (Pl:=[_,_,_,_,_]) (cZ:=[_,_,_]) [0,3,4] (by decide) rfl) ?_).1 rfl;exact hb2 (by simpa using h48)
   intro h48 a H
   refine fZ ?_;refine UA (Kl) _ _ _ _ _ (by exact H.dG (Pl:=[_,_,_,_,_]) (cZ:=[_,_,_]) [0,3,4] (by decide) rfl) ?_;exact hb1 (by simpa using h48)
  ·clear H;intro J6 qD Kg a w vE hI H;dsimp only [lca,bq] at H;refine iC _ _ ?_;clear iC;refine kP H (SC (Rd rfl (Rm rfl ?_)));clear H;intro a H;refine aD ?_;refine Ho ((ck+1,j1+(nJ (kJ x)[ck].id 0 (kJ x)[ck].flow).length,qD,Kg,J6 :: ds)) (by exact (H.dG (Pl:=[_,_,_]) (cZ:=[_,_]) [2,0] (by decide) rfl).sub ⟨rfl,rfl,rfl,rfl,aC⟩) ?_ ?_
   ·(try dsimp only);exact ⟨by omega,fun b o h=>vE b o (nS b o (hgm b o h)),dH.jump (by simpa using hI)⟩
   first|omega|(dsimp only;omega)
  clear H;intro J6 Lx Kg a w vE hI H;dsimp only [lca,bq] at H;refine bS ?_;refine (AY H 0 rfl ?_).1;clear H;intro a w H;dsimp only [List.eraseIdx_cons_succ,List.eraseIdx_cons_zero] at H;refine (zJ (Lh:=[_,_]) _ H ?_).1;clear H;intro a w H;dsimp only [lca,bq] at H;refine (leave0 H results229 ?_).1
  first
   | exact H.hp.gB (L':=Lx) (by repeat (first|exact fT _|apply List.Sublist.cons)) (.inr hI)
   | exact H.hp.gB (L':=Lt) (by repeat (first|exact fT _|apply List.Sublist.cons)) (.inl (by rw [jm (by omega),lI] at dH;have:=dH.len;simp only [List.length_nil,qh] at this;rw [aZ,← this];exact dH.now))
 intro fE a H
 try have p34:=dF fE
 refine eu ?_;refine (zJ (Lh:=[_]) _ H ?_).2;clear H;intro a w H;dsimp only [lca,bq] at H;refine (leave0 H results229 ?_).1
 first
  | exact H.hp.gB (L':=Lx) (by repeat (first|exact fT _|apply List.Sublist.cons)) (.inr hI)
  | exact H.hp.gB (L':=Lt) (by repeat (first|exact fT _|apply List.Sublist.cons)) (.inl (by rw [jm (by omega),lI] at dH;have:=dH.len;simp only [List.length_nil,qh] at this;rw [aZ,← this];exact dH.now))
theorem aei {n:Nat} (ih:Iz n) (hn:n≤4294967296) (G:GH) (w0:World) (hG:Hold G w0) (x:ay) (cs:List aj) (hsz:bT x.dat≤n) (hv:aR G x.dat cs) :
  Calls prog 206 #[.agg cs.toArray] w0 (bH w0 G fun u G'=>∃ bx,u=.func (.func 229) #[] #[(aK bx 0)]∧Iter prog G' u ((lI (kJ x)).map wN)):=by
 obtain ⟨pA,pn,pc,dA,dn,dc,yA,yn,yc,fA,fn,fc,rA,rn,rc,hcs,-⟩:=hv.item;have hv2:=hv;rw [hcs] at hv2 ⊢;refine eN [(0,_)] func206 rfl ntmps206 rfl rfl hG ?_;intro a H;refine bZ (fun _ K1=>?_);refine dZ (cs:=[_,_,_,_,_,_,_,_,_,_,_]) H wn rfl rfl rfl ?_;clear H;intro b1 a w hb1 H;refine kH H (ak K1 rfl (SR fun _ K2=>?_));clear H K1;intro a H;refine oQ H wn rfl rfl ?_;clear H;intro a H;refine kH H (ak K2 rfl ?_);clear H K2;intro a H;refine bS ?_;obtain ⟨G2,hm2,hb1,H⟩:=H.eH;refine lv H results206 rfl ?_;exact H.rt ⟨b1,rfl,asQ ih hn hsz hb1 (hv2.mono hm2)⟩
theorem aeX (x:ay):uT x < bT x.dat:=by
 have h1:=tN x;have h2:=NW x.text
 unfold uT;split <;> omega
set_option maxHeartbeats 1000000 in
theorem apg {n:Nat} (ih:Iz n) (hn:n≤4294967296):Iz (n+1):=by
 intro G l id bl bi v hz hbl hbi hv J Jx fv G1 L w0 GI hGi om hJx hJ hO hcb;refine jI (caps:=[(aK bl 0),(aK bi 0)]) Od ?_;obtain ⟨A,c,rfl,hc1,hc2,hg⟩:=hv.slice;rw [aZ] at *;have hll:=Ih l;replace hbl:=aJ hGi hbl;replace hbi:=aJ hGi hbi;refine iY (N:=55) (T:=[(0,_),(1,_),(2,_)]) func205 rfl ntmps205 rfl rfl hO ?_;intro a H;refine bZ (fun _ K1=>?_);refine dZ (cs:=[fv]) H wn rfl GI rfl ?_;clear H;intro b3 a w hb3 H;refine K1 _ _ ?_;clear K1;refine kP H (SR fun _ K2=>ak K2 rfl (SR fun _ K3=>Rg kg rfl (by assumption) ?_));clear H K2;intro a H;refine kH H (Rl jk rfl (Rm rfl (Kz K3 (SB ?_))));clear H K3;intro a H;skip;refine NK (ι:=Nat × Int × Nat × OL × GH × List Nat) (Tc:=[(2,_),(3,_),(12,_),(13,_)]) (Lc:=[(_,_)]) (fun gh=>JB gh.2.2.2.2.2) (fun gh=>[(4,vi gh.2.1),(14,vi gh.1)]) (fun gh=>[]++(lZ gh.2.2.2.2.2++gh.2.2.2.1)) (fun gh=>gh.2.2.2.2.1) (fun gh=>gh.1≤l.length∧(∀ b o,G1 b=some o→gh.2.2.2.2.1 b=some o)∧Now ((nJ id 0 l).map wN) wN J (nJ id 0 l).length gh.2.2.1 (nJ id gh.2.1 (l.drop gh.1)) gh.2.2.2.2.1 gh.2.2.2.1∧0≤gh.2.1∧gh.2.1+bV (l.drop gh.1)≤n) (fun gh=>l.length - gh.1) ((0,0,0,L,G1,[])) (by exact (H).sub ⟨rfl,rfl,rfl,rfl,rfl,rfl,aC⟩) ?_ ?_
 ·exact ⟨by omega,fun _ _ h=>h,⟨hJ,fun i a h=>by rw [gJ,pE];rw [tY] at h;rw [h];rfl,by simp⟩,Int.le_refl _,by simp;omega⟩
 clear H;rintro ⟨k,at_,j1,Lt,g,ds⟩ a w hI H;dsimp only at hI H;obtain ⟨hk,hgm,dH,atC,hat⟩:=hI;dsimp only [lca,bq] at H;refine kP H (SR fun _ K4=>Rc rfl (Kz K4 (SQ fun _ K5=>Cd rfl ?_ ?_))) <;> clear H K4
 ·intro iD a H
  try have pR:=dT iD
  have hk2:k < l.length:=by omega
  obtain ⟨b,o,pA,pn,pc,dA,dn,dc,yA,yn,yc,fA,fn,fc,rA,rn,rc,rfl,hrow,hhd,hfl,hrw⟩:=F4 hk2 hg;have yI:∀ b o,G b=some o→g b=some o:=fun b o h=>hgm b o (hGi b o h);replace hrow:=fun j u hj=>aJ yI (hrow j u hj);have atT:=aJ hgm hbi;have hsz1:=tN l[k];have hsz2:=Qw (kN hk2);have atB:=aeX l[k];rw [oh hk2] at dH hat;rw [bV,fO,dV] at hat;rw [nJ] at dH;refine kP H (Kc K5 (SQ fun _ K6=>SB (SR fun _ K7=>Ri jk dL rfl rfl ?_)));clear H K5;intro a H;refine bB dL (cs:=[_,_,_,_,_,_,_,_,_,_,_]) H wn rfl rfl (fun j v hj=>H.hp.aI (hrow j v hj)) rfl ?_;clear H;intro a H;refine dB dL H wn rfl ?_;clear H;intro b6 a w hb6 H;refine aY dL 0 (vs:=[_,_,_,_,_,_,_,_,_,_,_]) _ H wn rfl rfl rfl rfl rfl rfl rfl rfl ?_;clear H;intro w H;dsimp only [List.set,setRow] at H;refine K7 _ _ ?_;clear K7;refine kP H (SR fun _ K8=>Rg aH rfl (by assumption) ?_);clear H;intro a H;refine kH H (Rm rfl ?_);clear H;intro a H;refine jv arO [_,_] H wn rfl rfl rfl rfl ?_;clear H;intro a H;refine dB sP H wn rfl ?_;clear H;intro b7 a w zC H;refine aY sP 0 (vs:=[_,_]) _ H wn rfl rfl rfl rfl rfl rfl rfl rfl ?_;clear H;intro w H;dsimp only [List.set,setRow] at H;refine K8 _ _ ?_;clear K8;refine kP H (SR fun _ K9=>Rm rfl (Rd rfl (ak K9 rfl (SR fun _ aW=>bG kG aH 1 rfl rfl (Kz aW (SB (SR fun _ bO=>Rc rfl (ak bO rfl (Cd rfl ?_ ?_))))))))) <;> clear H K9 aW bO
  ·intro gX a H
   try have p25:=dT gX
   have hcl:=NW l[k].text;refine kP H (SR fun _ bW=>bG wu iM 1 rfl rfl ?_);clear H;intro a H;refine s_call Y9 H wn rfl (Yx _ _ H.ro _ (by omega)) rfl ?_;clear H;rintro v30 zY a w ⟨rfl,rfl⟩ Az H;refine kH H (Rm rfl ?_);clear H;intro a H;(iterate 2 refine lS H wn rfl rfl rfl ?_;clear H;intro a H);refine kH H (Ra rfl (ak bW rfl (SC (Rm rfl (Rm rfl (Rs rfl (Rd rfl (Ra rfl ?_))))))));clear H bW;intro a H
   have e:at_+1+((rZ l[k].text:Int) - 1)=at_+(uT l[k]:Int):=by rw [uT,au p25];omega
   rw [e] at H;refine kH H (Kn K6 (SC (Rd rfl (Rm rfl ?_))));clear H K6;intro a H;refine aD ?_;refine Ho ((k+1,at_+uT l[k],j1,Lt,g,ds)) (by exact (H.dG (Pl:=[_,_,_]) (cZ:=[_]) [2] (by decide) rfl).sub ⟨rfl,rfl,rfl,rfl,rfl,rfl,aC⟩) ?_ ?_
   ·(try dsimp only);exact ⟨by omega,hgm,by rw [PG,ah (by omega),lK] at dH;exact dH,by omega,by show at_+(uT l[k]:Int)+(dV ((l.drop (k+1)).map ay.dat):Nat)≤n;omega⟩
   first|omega|(dsimp only;omega)
  intro gX a H
  try have p25:=dF gX
  have e:at_+1=at_+(uT l[k]:Int):=by rw [uT,ah p25];rfl
  rw [e] at H;refine kP H (SQ fun _ cB=>SR fun _ dw=>Rc rfl (ak dw rfl (Cd rfl ?_ ?_))) <;> clear H dw
  ·intro h37 a H
   try have p37:=dT h37
   have F9:l[k].kind=6∨l[k].kind=7:=by first|exact .inl p37|exact .inr p37
   rw [PG,au F9] at dH;refine kP H (Kc cB (Ct rfl h37 (SQ fun _ dR=>SR fun _ dW=>Ro Ib 2 rfl ?_)));clear H cB;intro a H;refine bB sP (cs:=[_,_]) H wn rfl rfl (H.hp.bU 0 rfl rfl) rfl ?_;clear H;intro a H;refine bB dL (cs:=[_,_,_,_,_,_,_,_,_,_,_]) H wn rfl rfl (H.hp.bU 1 rfl rfl) rfl ?_;clear H;intro a H;refine vM (Li:=[_,_,_]++lZ ds) (L:=Lt) (St.un (A:=[_,_,_]) H) wn rfl rfl (hcb j1 _ _ _ _ ⟨_,dH.head,_,rfl,aR.mkItem (hhd.mono yI) (hfl.mono yI) (hrw.mono yI)⟩ hgm dH.now (Hp.owns (Li:=[_,_,_]++lZ ds) (St.un (A:=[_,_,_]) H).hp)) rfl ?_;clear H;rintro v43 Io Ee a w ⟨NH,rfl,hb1,hb2⟩ rE H
   simp only [iI,lD,lK] at H
   refine kH H (Rn rfl (Kz dW (Cd rfl ?_ ?_))) <;> clear H dW
   ·intro oM a H
    try have p44:=dT oM
    refine bS ?_;refine (zJ (Lh:=[_,_,_]) _ H ?_).1;clear H;intro a w H;dsimp only [lca,bq] at H;refine (leave0 H results205 ?_).1
    first
     | exact H.hp.gB (L':=Lx) (by repeat (first|exact fT _|apply List.Sublist.cons)) (.inr hI)
     | exact H.hp.gB (L':=Ee) (by repeat (first|exact fT _|apply List.Sublist.cons)) (.inr (hb2 (by simpa using oM)))
     | exact H.hp.gB (L':=Lt) (by repeat (first|exact fT _|apply List.Sublist.cons)) (.inl (by rw [jm (by omega),nJ] at dH;have:=dH.len;simp only [List.length_nil,qh] at this;(try rw [aZ]);rw [← this];exact dH.now))
   intro oM a H
   try have p44:=dF oM
   have uw:=dH.step (hb1 (by simpa using oM));refine fZ ?_;refine dR _ _ ?_;clear dR;refine bZ (fun _ dU=>?_);refine bB dL (cs:=[_,_,_,_,_,_,_,_,_,_,_]) H wn rfl rfl (H.hp.bU 1 rfl rfl) rfl ?_;clear H;intro a H;refine s_call Za H wn rfl (aei ih hn _ _ H.ro l[k] _ (by omega) (aR.mkItem (hhd.mono fun b o h=>rE b o (yI b o h)) (hfl.mono fun b o h=>rE b o (yI b o h)) (hrw.mono fun b o h=>rE b o (yI b o h)))) rfl ?_;clear H;rintro v46 Ka a w ⟨bx,rfl,hit⟩ yL H;refine dU _ _ ?_;clear dU;refine wY ?_;skip;refine FP (ι:=OL) (κ:=OL) (Lc:=[(_,_),(_,_),(_,_)]) (fun (k:Nat) (gh:OL)=>[]) (fun (k:Nat) (gh:OL)=>(lZ ds++gh)) (fun (k:Nat) (gh:OL) (g:GH)=>J (j1+1+k) g gh) (fun (gx:OL)=>Code.ret) (fun (gx:OL)=>[]) (fun (gx:OL)=>(lZ ds++gx)) (fun (gx:OL) (g:GH)=>Jx g gx) (Ee) (by exact H) rfl Sc (hit) (fun _ _ h=>h) rfl (fun k args g h=>by obtain ⟨_,_,rfl,_⟩:=zK h;rfl) (fun k i G G' hm h=>om _ _ _ _ hm h) (fun x G G' hm h=>hJx _ _ _ hm h) (om _ _ _ _ yL uw.now) ?_ ?_ ?_
   ·clear H;intro l15 yT vY bk k args qD CO w15 F15 B15 a Uu sI hI Uc UC UR H;obtain ⟨Uv,KG,rfl,uD⟩:=zK Uu;obtain ⟨aA,an,ac,bA,bn,bc,KI,KP,KN,KQ,KU,KR,Mr,Mv,Ms,rfl,-⟩:=uD.item;dsimp only [uW,List.cons_append,List.nil_append] at H;refine bZ (fun _ eG=>?_);refine dB sP H wn rfl ?_;clear H;intro b10 a w TV H;refine aY sP 0 (vs:=[_,_]) _ H wn rfl rfl rfl rfl rfl rfl rfl rfl ?_;clear H;intro w H;dsimp only [List.set,setRow] at H;refine eG _ _ ?_;clear eG;refine mP ?_;refine dB dL H wn rfl ?_;clear H;intro b11 a w BX H;refine aY dL 0 (vs:=[_,_,_,_,_,_,_,_,_,_,_]) _ H wn rfl rfl rfl rfl rfl rfl rfl rfl ?_;clear H;intro w H;dsimp only [List.set,setRow] at H;refine aD ?_;refine Uc _ _ _ _ _ _ (by exact H.dG (Pl:=[_,_,_,_,_,_]) (cZ:=[_,_,_,_,_,_]) [2,0,1,3,4,5] (by decide) rfl) ?_;clear H;intro w H;refine kP H (SB (SR fun _ gu=>Ro Ib 5 rfl ?_));clear H;intro a H;refine bB sP (cs:=[_,_]) H wn rfl rfl (H.hp.bU 2 rfl rfl) rfl ?_;clear H;intro a H;refine bB dL (cs:=[_,_,_,_,_,_,_,_,_,_,_]) H wn rfl rfl (H.hp.bU 1 rfl rfl) rfl ?_;clear H;intro a H;refine vM (Li:=([_,_,_,_,_,_]++bk)++lZ ds) (L:=qD) (St.un (A:=[_,_,_,_,_,_]++bk) (St.un (A:=[_,_,_,_,_,_]) H)) wn rfl rfl (hcb (j1+1+k) _ _ _ _ ⟨_,uw.part k _ (eD Uv),_,rfl,uD⟩ (fun b o h=>sI b o (yL b o (rE b o (hgm b o h)))) hI (Hp.owns (Li:=([_,_,_,_,_,_]++bk)++lZ ds) (St.un (A:=[_,_,_,_,_,_]++bk) (St.un (A:=[_,_,_,_,_,_]) H)).hp)) rfl ?_;clear H;rintro v52 Nq Km a w ⟨b52,rfl,hb3,hb4⟩ Ux H
    simp only [iI,lD,lK] at H
    refine kH H (Rn rfl (Kz gu (Cd rfl ?_ ?_))) <;> clear H gu
    ·intro Aq a H
     refine bS ?_;refine (UR (Km) _ _ _ _ _ (by exact H.dG (Pl:=[_,_,_,_,_,_]) (cZ:=[_,_,_,_]) [0,3,4,5] (by decide) rfl) ?_).1 rfl;exact hb4 (by simpa using Aq)
    intro Aq a H
    refine fZ ?_;refine UC (Km) _ _ _ _ _ (by exact H.dG (Pl:=[_,_,_,_,_,_]) (cZ:=[_,_,_,_]) [0,3,4,5] (by decide) rfl) ?_;exact hb3 (by simpa using Aq)
   ·clear H;intro J7 qD Kh a w sI hI H;dsimp only [lca,bq] at H;refine K6 _ _ ?_;clear K6;refine kP H (SC (Rd rfl (Rm rfl ?_)));clear H;intro a H;refine aD ?_;refine Ho ((k+1,at_+uT l[k],j1+1+(lI (kJ l[k])).length,qD,Kh,J7 :: ds)) (by exact (H.dG (Pl:=[_,_,_,_]) (cZ:=[_,_]) [3,0] (by decide) rfl).sub ⟨rfl,rfl,rfl,rfl,rfl,rfl,aC⟩) ?_ ?_
    ·(try dsimp only);exact ⟨by omega,fun b o h=>sI b o (yL b o (rE b o (hgm b o h))),uw.jump (by simpa using hI),by omega,by show at_+(uT l[k]:Int)+(dV ((l.drop (k+1)).map ay.dat):Nat)≤n;omega⟩
    first|omega|(dsimp only;omega)
   clear H;intro J7 Lx Kh a w sI hI H;dsimp only [lca,bq] at H;refine bS ?_;refine (AY H 0 rfl ?_).1;clear H;intro a w H;dsimp only [List.eraseIdx_cons_succ,List.eraseIdx_cons_zero] at H;refine (zJ (Lh:=[_,_,_]) _ H ?_).1;clear H;intro a w H;dsimp only [lca,bq] at H;refine (leave0 H results205 ?_).1
   first
    | exact H.hp.gB (L':=Lx) (by repeat (first|exact fT _|apply List.Sublist.cons)) (.inr hI)
    | exact H.hp.gB (L':=Ee) (by repeat (first|exact fT _|apply List.Sublist.cons)) (.inr (hb2 (by simpa using oM)))
    | exact H.hp.gB (L':=Lt) (by repeat (first|exact fT _|apply List.Sublist.cons)) (.inl (by rw [jm (by omega),nJ] at dH;have:=dH.len;simp only [List.length_nil,qh] at this;(try rw [aZ]);rw [← this];exact dH.now))
  intro h37 a H
  try have p37:=dF h37
  first
   | (have hn6:¬ l[k].kind=6:=p37)
   | (have hn7:¬ l[k].kind=7:=p37)
  refine kP H (SC (Rc rfl (bC cB rfl (Cd rfl ?_ ?_)))) <;> clear H cB
  ·intro h37 a H
   try have p37:=dT h37
   have F9:l[k].kind=6∨l[k].kind=7:=by first|exact .inl p37|exact .inr p37
   rw [PG,au F9] at dH;refine kP H (SQ fun _ fC=>SR fun _ gH=>Ro Ib 2 rfl ?_);clear H;intro a H;refine bB sP (cs:=[_,_]) H wn rfl rfl (H.hp.bU 0 rfl rfl) rfl ?_;clear H;intro a H;refine bB dL (cs:=[_,_,_,_,_,_,_,_,_,_,_]) H wn rfl rfl (H.hp.bU 1 rfl rfl) rfl ?_;clear H;intro a H;refine vM (Li:=[_,_,_]++lZ ds) (L:=Lt) (St.un (A:=[_,_,_]) H) wn rfl rfl (hcb j1 _ _ _ _ ⟨_,dH.head,_,rfl,aR.mkItem (hhd.mono yI) (hfl.mono yI) (hrw.mono yI)⟩ hgm dH.now (Hp.owns (Li:=[_,_,_]++lZ ds) (St.un (A:=[_,_,_]) H).hp)) rfl ?_;clear H;rintro v43 Io Ee a w ⟨NH,rfl,hb1,hb2⟩ rE H
   simp only [iI,lD,lK] at H
   refine kH H (Rn rfl (Kz gH (Cd rfl ?_ ?_))) <;> clear H gH
   ·intro oM a H
    try have p44:=dT oM
    refine bS ?_;refine (zJ (Lh:=[_,_,_]) _ H ?_).1;clear H;intro a w H;dsimp only [lca,bq] at H;refine (leave0 H results205 ?_).1
    first
     | exact H.hp.gB (L':=Lx) (by repeat (first|exact fT _|apply List.Sublist.cons)) (.inr hI)
     | exact H.hp.gB (L':=Ee) (by repeat (first|exact fT _|apply List.Sublist.cons)) (.inr (hb2 (by simpa using oM)))
     | exact H.hp.gB (L':=Lt) (by repeat (first|exact fT _|apply List.Sublist.cons)) (.inl (by rw [jm (by omega),nJ] at dH;have:=dH.len;simp only [List.length_nil,qh] at this;(try rw [aZ]);rw [← this];exact dH.now))
   intro oM a H
   try have p44:=dF oM
   have uw:=dH.step (hb1 (by simpa using oM));refine fZ ?_;refine fC _ _ ?_;clear fC;refine bZ (fun _ iC=>?_);refine bB dL (cs:=[_,_,_,_,_,_,_,_,_,_,_]) H wn rfl rfl (H.hp.bU 1 rfl rfl) rfl ?_;clear H;intro a H;refine s_call Za H wn rfl (aei ih hn _ _ H.ro l[k] _ (by omega) (aR.mkItem (hhd.mono fun b o h=>rE b o (yI b o h)) (hfl.mono fun b o h=>rE b o (yI b o h)) (hrw.mono fun b o h=>rE b o (yI b o h)))) rfl ?_;clear H;rintro v46 Ka a w ⟨bx,rfl,hit⟩ yL H;refine iC _ _ ?_;clear iC;refine wY ?_;skip;refine FP (ι:=OL) (κ:=OL) (Lc:=[(_,_),(_,_),(_,_)]) (fun (k:Nat) (gh:OL)=>[]) (fun (k:Nat) (gh:OL)=>(lZ ds++gh)) (fun (k:Nat) (gh:OL) (g:GH)=>J (j1+1+k) g gh) (fun (gx:OL)=>Code.ret) (fun (gx:OL)=>[]) (fun (gx:OL)=>(lZ ds++gx)) (fun (gx:OL) (g:GH)=>Jx g gx) (Ee) (by exact H) rfl Sc (hit) (fun _ _ h=>h) rfl (fun k args g h=>by obtain ⟨_,_,rfl,_⟩:=zK h;rfl) (fun k i G G' hm h=>om _ _ _ _ hm h) (fun x G G' hm h=>hJx _ _ _ hm h) (om _ _ _ _ yL uw.now) ?_ ?_ ?_
   ·clear H;intro l15 yT vY bk k args qD CO w15 F15 B15 a Uu sI hI Uc UC UR H;obtain ⟨Uv,KG,rfl,uD⟩:=zK Uu;obtain ⟨aA,an,ac,bA,bn,bc,KI,KP,KN,KQ,KU,KR,Mr,Mv,Ms,rfl,-⟩:=uD.item;dsimp only [uW,List.cons_append,List.nil_append] at H;refine bZ (fun _ jT=>?_);refine dB sP H wn rfl ?_;clear H;intro b10 a w TV H;refine aY sP 0 (vs:=[_,_]) _ H wn rfl rfl rfl rfl rfl rfl rfl rfl ?_;clear H;intro w H;dsimp only [List.set,setRow] at H;refine jT _ _ ?_;clear jT;refine mP ?_;refine dB dL H wn rfl ?_;clear H;intro b11 a w BX H;refine aY dL 0 (vs:=[_,_,_,_,_,_,_,_,_,_,_]) _ H wn rfl rfl rfl rfl rfl rfl rfl rfl ?_;clear H;intro w H;dsimp only [List.set,setRow] at H;refine aD ?_;refine Uc _ _ _ _ _ _ (by exact H.dG (Pl:=[_,_,_,_,_,_]) (cZ:=[_,_,_,_,_,_]) [2,0,1,3,4,5] (by decide) rfl) ?_;clear H;intro w H;refine kP H (SB (SR fun _ jN=>Ro Ib 5 rfl ?_));clear H;intro a H;refine bB sP (cs:=[_,_]) H wn rfl rfl (H.hp.bU 2 rfl rfl) rfl ?_;clear H;intro a H;refine bB dL (cs:=[_,_,_,_,_,_,_,_,_,_,_]) H wn rfl rfl (H.hp.bU 1 rfl rfl) rfl ?_;clear H;intro a H;refine vM (Li:=([_,_,_,_,_,_]++bk)++lZ ds) (L:=qD) (St.un (A:=[_,_,_,_,_,_]++bk) (St.un (A:=[_,_,_,_,_,_]) H)) wn rfl rfl (hcb (j1+1+k) _ _ _ _ ⟨_,uw.part k _ (eD Uv),_,rfl,uD⟩ (fun b o h=>sI b o (yL b o (rE b o (hgm b o h)))) hI (Hp.owns (Li:=([_,_,_,_,_,_]++bk)++lZ ds) (St.un (A:=[_,_,_,_,_,_]++bk) (St.un (A:=[_,_,_,_,_,_]) H)).hp)) rfl ?_;clear H;rintro v52 Nq Km a w ⟨b52,rfl,hb3,hb4⟩ Ux H
    simp only [iI,lD,lK] at H
    refine kH H (Rn rfl (Kz jN (Cd rfl ?_ ?_))) <;> clear H jN
    ·intro Aq a H
     refine bS ?_;refine (UR (Km) _ _ _ _ _ (by exact H.dG (Pl:=[_,_,_,_,_,_]) (cZ:=[_,_,_,_]) [0,3,4,5] (by decide) rfl) ?_).1 rfl;exact hb4 (by simpa using Aq)
    intro Aq a H
    refine fZ ?_;refine UC (Km) _ _ _ _ _ (by exact H.dG (Pl:=[_,_,_,_,_,_]) (cZ:=[_,_,_,_]) [0,3,4,5] (by decide) rfl) ?_;exact hb3 (by simpa using Aq)
   ·clear H;intro J7 qD Kh a w sI hI H;dsimp only [lca,bq] at H;refine K6 _ _ ?_;clear K6;refine kP H (SC (Rd rfl (Rm rfl ?_)));clear H;intro a H;refine aD ?_;refine Ho ((k+1,at_+uT l[k],j1+1+(lI (kJ l[k])).length,qD,Kh,J7 :: ds)) (by exact (H.dG (Pl:=[_,_,_,_]) (cZ:=[_,_]) [3,0] (by decide) rfl).sub ⟨rfl,rfl,rfl,rfl,rfl,rfl,aC⟩) ?_ ?_
    ·(try dsimp only);exact ⟨by omega,fun b o h=>sI b o (yL b o (rE b o (hgm b o h))),uw.jump (by simpa using hI),by omega,by show at_+(uT l[k]:Int)+(dV ((l.drop (k+1)).map ay.dat):Nat)≤n;omega⟩
    first|omega|(dsimp only;omega)
   clear H;intro J7 Lx Kh a w sI hI H;dsimp only [lca,bq] at H;refine bS ?_;refine (AY H 0 rfl ?_).1;clear H;intro a w H;dsimp only [List.eraseIdx_cons_succ,List.eraseIdx_cons_zero] at H;refine (zJ (Lh:=[_,_,_]) _ H ?_).1;clear H;intro a w H;dsimp only [lca,bq] at H;refine (leave0 H results205 ?_).1
   first
    | exact H.hp.gB (L':=Lx) (by repeat (first|exact fT _|apply List.Sublist.cons)) (.inr hI)
    | exact H.hp.gB (L':=Ee) (by repeat (first|exact fT _|apply List.Sublist.cons)) (.inr (hb2 (by simpa using oM)))
    | exact H.hp.gB (L':=Lt) (by repeat (first|exact fT _|apply List.Sublist.cons)) (.inl (by rw [jm (by omega),nJ] at dH;have:=dH.len;simp only [List.length_nil,qh] at this;(try rw [aZ]);rw [← this];exact dH.now))
  intro h37 a H
  try have p37:=dF h37
  first
   | (have hn6:¬ l[k].kind=6:=p37)
   | (have hn7:¬ l[k].kind=7:=p37)
  refine kP H (Kc K6 (SC (Rd rfl (Rm rfl ?_))));clear H K6;intro a H;refine aD ?_;refine Ho ((k+1,at_+uT l[k],j1,Lt,g,ds)) (by exact (H.dG (Pl:=[_,_,_]) (cZ:=[_]) [2] (by decide) rfl).sub ⟨rfl,rfl,rfl,rfl,rfl,rfl,aC⟩) ?_ ?_
  ·(try dsimp only);exact ⟨by omega,hgm,by rw [PG,ah (by omega),lK] at dH;exact dH,by omega,by show at_+(uT l[k]:Int)+(dV ((l.drop (k+1)).map ay.dat):Nat)≤n;omega⟩
  first|omega|(dsimp only;omega)
 intro iD a H
 try have pR:=dF iD
 refine eu ?_;refine (zJ (Lh:=[_]) _ H ?_).2;clear H;intro a w H;dsimp only [lca,bq] at H;refine (leave0 H results205 ?_).1
 first
  | exact H.hp.gB (L':=Lx) (by repeat (first|exact fT _|apply List.Sublist.cons)) (.inr hI)
  | exact H.hp.gB (L':=Ee) (by repeat (first|exact fT _|apply List.Sublist.cons)) (.inr (hb2 (by simpa using oM)))
  | exact H.hp.gB (L':=Lt) (by repeat (first|exact fT _|apply List.Sublist.cons)) (.inl (by rw [jm (by omega),nJ] at dH;have:=dH.len;simp only [List.length_nil,qh] at this;(try rw [aZ]);rw [← this];exact dH.now))
theorem acw:∀ n:Nat,n≤4294967297→Iz n
 | 0,_=>fun _ _ _ _ _ _ h=>absurd h (by omega)
 | n+1,hn=>apg (acw n (by omega)) (by omega)
theorem apf (G:GH) (w0:World) (hG:Hold G w0) (l:List ay) (id:Int) (v:aj) (hz:bV l≤4294967296) (hv:av G (.sl 11 (l.map ay.dat)) v) :
  Calls prog 147 #[vi id,v] w0 (bH w0 G fun u G'=>∃ bl bi,u=.func (.func 205) #[] #[(aK bl 0),(aK bi 0)]∧Iter prog G' u ((nJ id 0 l).map wN)) :=
 VN (acw 4294967297 (by omega)) G w0 hG l id v (by omega) hv
theorem ahQ:∀ args w,(callFunc 171 args).run prog w=.ok (.enter 171 args) w:=enters func171 rfl (by kernel_rfl)
theorem aip:∀ args w,(callFunc 204 args).run prog w=.ok (.enter 204 args) w:=enters func204 rfl (by kernel_rfl)
def qV (fv:aj) (G:GH) (d:List Dat) (b:Bool):Prop:=∀ (G1:GH) (w1:World) (cs:List aj),(∀ b o,G b=some o→G1 b=some o)→Hold G1 w1→aR G1 d cs →
 sS prog fv [.agg cs.toArray] w1 (bH w1 G1 fun u G'=>u=.bool b)
def nE (o:Option Nat):Int:=match o with|some i=>i|none=>-1
theorem anq (G:GH) (w0:World) (hG:Hold G w0) (l:List aS) (p:aS→Bool) (v fv:aj) (hv:av G (.sl 6 (l.map aS.dat)) v) (hf:∀ x∈l,qV fv G x.dat (p x)) :
  Calls prog 171 #[v,fv] w0 (bH w0 G fun u G'=>u=vi (nE (l.findIdx? p))):=by
 obtain ⟨A,c,rfl,hc1,hc2,hg⟩:=hv.slice;have hml:maxLen=9223372036854775807:=rfl;rw [aZ] at *;refine eN [(0,_),(1,_)] func171 rfl ntmps171 rfl rfl hG ?_;intro a H;refine kP H (SR fun _ K1=>ak K1 rfl (SQ fun _ K2=>SR fun _ K3=>Rm rfl (Rl kT rfl (Rm rfl (Kz K3 (SB ?_))))));clear H K1 K3;intro a H;skip;refine fH (ι:=Nat × GH) (Tc:=[(0,_),(1,_),(7,_)]) (Lc:=[]) (fun gh=>[(8,vi gh.1)]) (fun gh=>[]) (fun gh=>gh.2) (fun gh=>gh.1≤l.length∧(l.take gh.1).findIdx? p=none∧(∀ b o,G b=some o→gh.2 b=some o)) (fun gh=>l.length - gh.1) ((0,G)) (by exact (H).sub ⟨rfl,rfl,rfl,rfl,aC⟩) ?_ ?_
 ·exact ⟨by omega,rfl,fun _ _ h=>h⟩
 clear H;rintro ⟨k,g⟩ a w hI H;dsimp only at hI H;obtain ⟨hk,hno,hgm⟩:=hI;dsimp only [lca,bq] at H;refine kP H (SR fun _ K4=>Rc rfl (Kz K4 (SQ fun _ K5=>Cd rfl ?_ ?_))) <;> clear H K4
 ·intro h9 a H
  try have p9:=dT h9
  have hk2:k < l.length:=by omega
  obtain ⟨b,o,cs,rfl,hcl,hrow,hrep⟩:=hg k l[k].dat (by simp [hk2]);obtain ⟨pA,pn,pc,dA,dn,dc,yA,yn,yc,fA,fn,fc,rfl,-⟩:=hrep.row;replace hrow:=fun j u hj=>aJ hgm (hrow j u hj);refine kP H (Kc K5 (SQ fun _ K6=>SB (SR fun _ K7=>Rm rfl (ak K7 rfl (SR fun _ K8=>Rm rfl (Rm rfl (Rm rfl (Ri kT iW rfl rfl ?_))))))));clear H K5 K7;intro a H;refine bB iW (cs:=[_,_,_,_,_,_]) H wn rfl rfl (fun j v hj=>H.hp.aI (hrow j v hj)) rfl ?_;clear H;intro a H;refine kD H wn rfl rfl (hf _ (kN hk2) _ _ _ hgm H.ro (hrep.mono hgm)) rfl ?_;clear H;rintro v16 nL a w rfl lH H;refine K8 _ _ ?_;clear K8;refine jC H rfl ?_ ?_
  ·intro h16
   try have p16:=dT h16
   refine kP H (SR fun _ K9=>Rm rfl (ak K9 rfl ?_));clear H K9;intro a H;refine lr H results171 rfl ?_
   first
    | exact H.rt (by rw [sN hk2 hno h16];rfl)
    | exact H.rt (by rw [show l.take k=l from iX (by omega)] at hno;rw [hno];rfl)
  intro h16
  try have p16:=dF h16
  refine kP H (Kc K6 (SC (Rd rfl (Rm rfl ?_))));clear H K6;intro a H;refine aD ?_;refine dM ((k+1,nL)) (by exact (H).sub ⟨rfl,rfl,rfl,rfl,aC⟩) ?_
  (try dsimp only);exact ⟨by omega,Cj hk2 hno h16,fun b o h=>lH b o (hgm b o h)⟩
 intro h9 a H
 try have p9:=dF h9
 refine eu ?_;refine K2 _ _ ?_;clear K2;refine kP H (SR fun _ aW=>ak aW rfl ?_);clear H aW;intro a H;refine lr H results171 rfl ?_
 first
  | exact H.rt (by rw [sN hk2 hno h16];rfl)
  | exact H.rt (by rw [show l.take k=l from iX (by omega)] at hno;rw [hno];rfl)
theorem anp (G:GH) (w0:World) (hG:Hold G w0) (l:List aT) (p:aT→Bool) (v fv:aj) (hv:av G (.sl 7 (l.map aT.dat)) v) (hf:∀ x∈l,qV fv G x.dat (p x)) :
  Calls prog 204 #[v,fv] w0 (bH w0 G fun u G'=>u=vi (nE (l.findIdx? p))):=by
 obtain ⟨A,c,rfl,hc1,hc2,hg⟩:=hv.slice;have hml:maxLen=9223372036854775807:=rfl;rw [aZ] at *;refine eN [(0,_),(1,_)] func204 rfl ntmps204 rfl rfl hG ?_;intro a H;refine kP H (SR fun _ K1=>ak K1 rfl (SQ fun _ K2=>SR fun _ K3=>Rm rfl (Rl lu rfl (Rm rfl (Kz K3 (SB ?_))))));clear H K1 K3;intro a H;skip;refine fH (ι:=Nat × GH) (Tc:=[(0,_),(1,_),(7,_)]) (Lc:=[]) (fun gh=>[(8,vi gh.1)]) (fun gh=>[]) (fun gh=>gh.2) (fun gh=>gh.1≤l.length∧(l.take gh.1).findIdx? p=none∧(∀ b o,G b=some o→gh.2 b=some o)) (fun gh=>l.length - gh.1) ((0,G)) (by exact (H).sub ⟨rfl,rfl,rfl,rfl,aC⟩) ?_ ?_
 ·exact ⟨by omega,rfl,fun _ _ h=>h⟩
 clear H;rintro ⟨k,g⟩ a w hI H;dsimp only at hI H;obtain ⟨hk,hno,hgm⟩:=hI;dsimp only [lca,bq] at H;refine kP H (SR fun _ K4=>Rc rfl (Kz K4 (SQ fun _ K5=>Cd rfl ?_ ?_))) <;> clear H K4
 ·intro h9 a H
  try have p9:=dT h9
  have hk2:k < l.length:=by omega
  obtain ⟨b,o,cs,rfl,hcl,hrow,hrep⟩:=hg k l[k].dat (by simp [hk2]);obtain ⟨pA,pn,pc,dA,dn,dc,yA,yn,yc,fA,fn,fc,rfl,-⟩:=hrep.cell;replace hrow:=fun j u hj=>aJ hgm (hrow j u hj);refine kP H (Kc K5 (SQ fun _ K6=>SB (SR fun _ K7=>Rm rfl (ak K7 rfl (SR fun _ K8=>Rm rfl (Rm rfl (Rm rfl (Ri lu iQ rfl rfl ?_))))))));clear H K5 K7;intro a H;refine bB iQ (cs:=[_,_,_,_,_,_,_]) H wn rfl rfl (fun j v hj=>H.hp.aI (hrow j v hj)) rfl ?_;clear H;intro a H;refine kD H wn rfl rfl (hf _ (kN hk2) _ _ _ hgm H.ro (hrep.mono hgm)) rfl ?_;clear H;rintro v16 nL a w rfl lH H;refine K8 _ _ ?_;clear K8;refine jC H rfl ?_ ?_
  ·intro h16
   try have p16:=dT h16
   refine kP H (SR fun _ K9=>Rm rfl (ak K9 rfl ?_));clear H K9;intro a H;refine lr H results204 rfl ?_
   first
    | exact H.rt (by rw [sN hk2 hno h16];rfl)
    | exact H.rt (by rw [show l.take k=l from iX (by omega)] at hno;rw [hno];rfl)
  intro h16
  try have p16:=dF h16
  refine kP H (Kc K6 (SC (Rd rfl (Rm rfl ?_))));clear H K6;intro a H;refine aD ?_;refine dM ((k+1,nL)) (by exact (H).sub ⟨rfl,rfl,rfl,rfl,aC⟩) ?_
  (try dsimp only);exact ⟨by omega,Cj hk2 hno h16,fun b o h=>lH b o (hgm b o h)⟩
 intro h9 a H
 try have p9:=dF h9
 refine eu ?_;refine K2 _ _ ?_;clear K2;refine kP H (SR fun _ aW=>ak aW rfl ?_);clear H aW;intro a H;refine lr H results204 rfl ?_
 first
  | exact H.rt (by rw [sN hk2 hno h16];rfl)
  | exact H.rt (by rw [show l.take k=l from iX (by omega)] at hno;rw [hno];rfl)
theorem agD (G:GH) (w0:World) (hG:Hold G w0) (l:List aT) (p:aT→Bool) (v fv:aj) (hv:av G (.sl 7 (l.map aT.dat)) v) (hf:∀ x∈l,qV fv G x.dat (p x)) :
  Calls prog 144 #[v,fv] w0 (bH w0 G fun u G'=>u=.bool (l.findIdx? p).isSome):=by
 refine eN [(0,_),(1,_)] func144 rfl ntmps144 rfl rfl hG ?_;intro a H;refine kP H (SR fun _ K1=>ak K1 rfl (SR fun _ K2=>Rm rfl (Rm rfl ?_)));clear H K1;intro a H;refine s_call aip H wn rfl (anp _ _ H.ro l p _ _ hv hf) rfl ?_;clear H;rintro v7 G7 a w rfl AB H;refine kH H (Rc rfl (ak K2 rfl ?_));clear H K2;intro a H;refine lr H results144 rfl ?_
 exact H.rt (by cases h:l.findIdx? p <;> simp [nE])
def lY (p:Nat→Bool):Nat→Nat→Nat→Nat
 | 0,i,_=>i
 | f+1,i,j=>if i < j then (if p ((i+j) / 2) then lY p f i ((i+j) / 2) else lY p f ((i+j) / 2+1) j) else i
theorem U3 {p:Nat→Bool} {f i j:Nat} (hf:j - i≤f) (h:i < j):lY p f i j=if p ((i+j) / 2) then lY p (f - 1) i ((i+j) / 2) else lY p (f - 1) ((i+j) / 2+1) j:=by
 match f,hf with
 | 0,hf=>omega
 | f+1,_=>rw [lY,au h];rfl
theorem U0 {p:Nat→Bool} {f i j:Nat} (h:¬ i < j):lY p f i j=i:=by
 match f with
 | 0=>rfl
 | f+1=>rw [lY,ah h]
theorem Pb {p:Nat→Bool}:∀ (f i j:Nat),i≤j→lY p f i j≤j
 | 0,i,j,h=>h
 | f+1,i,j,h=>by
  rw [lY]
  split
  ·split
   ·exact Nat.le_trans (Pb f i _ (by omega)) (by omega)
   ·exact Pb f _ j (by omega)
  ·exact h
theorem U4 {z:Int} (h1:0≤z) (h2:z < 18446744073709551616):IntKind.u64.wrap z=z:=by
 simp only [IntKind.wrap,IntKind.bits,IntKind.signed,xZ,FJ,if_false]
 omega
theorem U1 (n:Nat):((n:Nat):Int).fdiv (2 ^ 1)=((n / 2:Nat):Int):=by
 rw [Int.fdiv_eq_ediv_of_nonneg _ (by decide)];omega
def BP (a b:Int):Int:=if a < b then -1 else if b < a then 1 else 0
theorem NV {a b:Int}:BP a b < 0↔a < b:=by
 unfold BP
 split
 ·simp [*]
 ·split <;> simp_all
theorem NU {a b:Int}:BP a b=0↔a=b:=by
 unfold BP
 split
 ·omega
 ·split <;> omega
def iG (ks:List Int) (t:Int):Nat:=lY (fun h=>decide (¬ ks.getD h 0 < t)) ks.length 0 ks.length
def qm (ks:List Int) (t:Int):Bool:=decide (ks[iG ks t]?=some t)
theorem FN (ks:List Int) (t:Int):iG ks t≤ks.length:=Pb _ _ _ (gY _)
theorem LJ {ks:List Int} {t:Int} (h:qm ks t=true):iG ks t < ks.length:=by
 have:=mM h
 exact (jH.1 this).1
theorem LH {ks:List Int} {t:Int} {n:Nat} (e:iG ks t=n) (h:n < ks.length):qm ks t=decide (BP ks[n] t=0):=by
 unfold qm
 rw [e,eD h]
 simp [NU]
theorem LK {ks:List Int} {t:Int} {n:Nat} (e:iG ks t=n) (h:¬ n < ks.length):qm ks t=false:=by
 unfold qm
 rw [e,List.getElem?_eq_none (by omega)]
 simp
theorem getD_map {α:Type} {f:α→Int} {l:List α} {n:Nat} (h:n < l.length):(l.map f).getD n 0=f l[n]:=by
 simp [List.getD,h]
theorem MW:prog.underlying 322=some (.slice 296):=by kernel_rfl
theorem vQ:Ty prog 296 6 56 [.int .i64 0,.int .i64 0,.int .i64 0,.int .i64 0,.int .i64 0,.string ⟨#[]⟩] true:=⟨by kernel_rfl,by kernel_rfl⟩
theorem adr:qd prog 296 [(0,1),(1,1),(2,1),(3,1),(4,1),(5,1)] [.int .i64 0,.int .i64 0,.int .i64 0,.int .i64 0,.int .i64 0,.string ⟨#[]⟩]:=⟨by kernel_rfl,by kernel_rfl⟩
theorem R5:∀ args w,(callFunc 174 args).run prog w=.ok (.enter 174 args) w:=enters func174 rfl (by kernel_rfl)
structure ku where
 num:Int
 Jc:Int
 low:Int
 high:Int
 std:Int
 name:ByteArray
def ku.dat (x:ku):List Dat:=[li x.num,li x.Jc,li x.low,li x.high,li x.std,.lf (.string x.name)]
def ku.cells (x:ku):List aj:=[vi x.num,vi x.Jc,vi x.low,vi x.high,vi x.std,.string x.name]
def aO.cells (x:aO):List aj:=[vi x.key,vi x.value]
theorem anH (G:GH) (x:ku):aR G x.dat x.cells:=by
 simp only [ku.dat,ku.cells,aR]
 exact ⟨_,_,rfl,by simp [av,Value.oneCell'],_,_,rfl,by simp [av,Value.oneCell'],_,_,rfl,by simp [av,Value.oneCell'],_,_,rfl,by simp [av,Value.oneCell'],_,_,rfl,by simp [av,Value.oneCell'],_,_,rfl,by simp [av,Value.oneCell'],rfl⟩
theorem anG {G:GH} {x:ku} {cs:List aj} (h:aR G x.dat cs):cs=x.cells:=by
 simp only [ku.dat,aR,av] at h
 obtain ⟨v1,_,rfl,⟨rfl,-⟩,v2,_,rfl,⟨rfl,-⟩,v3,_,rfl,⟨rfl,-⟩,v4,_,rfl,⟨rfl,-⟩,v5,_,rfl,⟨rfl,-⟩,v6,_,rfl,⟨rfl,-⟩,rfl⟩:=h
 rfl
theorem apm (G:GH) (x:aO):aR G x.dat x.cells:=by
 simp only [aO.dat,aO.cells,aR]
 exact ⟨_,_,rfl,by simp [av,Value.oneCell'],_,_,rfl,by simp [av,Value.oneCell'],rfl⟩
theorem PO {G:GH} {x:aO} {cs:List aj} (h:aR G x.dat cs):cs=x.cells:=by
 simp only [aO.dat,aR,av] at h
 obtain ⟨v1,_,rfl,⟨rfl,-⟩,v2,_,rfl,⟨rfl,-⟩,rfl⟩:=h
 rfl
theorem abA (G:GH):∀ (B A:List ku),bR G 6 (A.map ku.dat) (A.map ku.cells).flatten→bR G 6 ((A++B).map ku.dat) ((A++B).map ku.cells).flatten
 | [],A,h=>by rw [jd];exact h
 | x :: B,A,h=>by
  have h2:=h.snoc (anH G x) rfl;have h3:=abA G B (A++[x]) (by simpa using h2)
  simpa using h3
theorem anI (G:GH) (A:List ku):bR G 6 (A.map ku.dat) (A.map ku.cells).flatten:=abA G A [] bR.nil
theorem Vh {G:GH} {l:List ku} {A:Option Addr} {n c k:Nat} (hv:av G (.sl 6 (l.map ku.dat)) (.slice A n c)) (hk:k < l.length):∃ b o,A=some ⟨b,o,none⟩∧(∀ j u,[vi l[k].num,vi l[k].Jc,vi l[k].low,vi l[k].high,vi l[k].std,.string l[k].name][j]?=some u→aI G b (o+k*6+j)=some u):=by
 obtain ⟨A',c',he,_,_,hg⟩:=hv.slice
 injection he with e1 e2 e3
 subst e1;obtain ⟨b,o,cs,h1,h2,h3,h4⟩:=hg k l[k].dat (by simp [hk]);obtain rfl:=anG h4;exact ⟨b,o,h1,h3⟩
theorem acz (G:GH):∀ (B A:List aO),bR G 2 (A.map aO.dat) (A.map aO.cells).flatten→bR G 2 ((A++B).map aO.dat) ((A++B).map aO.cells).flatten
 | [],A,h=>by rw [jd];exact h
 | x :: B,A,h=>by
  have h2:=h.snoc (apm G x) rfl;have h3:=acz G B (A++[x]) (by simpa using h2)
  simpa using h3
theorem PS (G:GH) (A:List aO):bR G 2 (A.map aO.dat) (A.map aO.cells).flatten:=acz G A [] bR.nil
theorem HV {G:GH} {l:List aO} {A:Option Addr} {n c k:Nat} (hv:av G (.sl 2 (l.map aO.dat)) (.slice A n c)) (hk:k < l.length):∃ b o,A=some ⟨b,o,none⟩∧(∀ j u,[vi l[k].key,vi l[k].value][j]?=some u→aI G b (o+k*2+j)=some u):=by
 obtain ⟨A',c',he,_,_,hg⟩:=hv.slice
 injection he with e1 e2 e3
 subst e1;obtain ⟨b,o,cs,h1,h2,h3,h4⟩:=hg k l[k].dat (by simp [hk]);obtain rfl:=PO h4;exact ⟨b,o,h1,h3⟩
def Hg:List ku:=[⟨1,1,0,1073741824,0,⟨#[99,104,97,114,97,99,116,101,114,45,115,116,121,108,101]⟩⟩,⟨2,1,0,1,0,⟨#[98,111,108,100]⟩⟩,⟨3,1,0,1,0,⟨#[105,116,97,108,105,99]⟩⟩,⟨4,1,0,3,0,⟨#[117,110,100,101,114,108,105,110,101]⟩⟩,⟨5,1,2,1638,22,⟨#[115,105,122,101]⟩⟩,⟨6,1,0,16777215,0,⟨#[99,111,108,111,114]⟩⟩,⟨7,1,0,63,0,⟨#[102,111,110,116]⟩⟩,⟨8,1,0,255,0,⟨#[108,97,110,103,117,97,103,101]⟩⟩,⟨9,1,-400,400,0,⟨#[114,97,105,115,101]⟩⟩,⟨10,1,0,1,0,⟨#[104,105,100,100,101,110]⟩⟩,⟨20,2,0,1073741824,0,⟨#[112,97,114,97,103,114,97,112,104,45,115,116,121,108,101]⟩⟩,⟨21,2,0,3,0,⟨#[97,108,105,103,110]⟩⟩,⟨22,2,-31680,31680,0,⟨#[108,101,102,116]⟩⟩,⟨23,2,-31680,31680,0,⟨#[114,105,103,104,116]⟩⟩,⟨24,2,-31680,31680,0,⟨#[102,105,114,115,116]⟩⟩,⟨25,2,0,31680,0,⟨#[98,101,102,111,114,101]⟩⟩,⟨26,2,0,31680,0,⟨#[97,102,116,101,114]⟩⟩,⟨27,2,0,31680,0,⟨#[108,101,97,100,105,110,103]⟩⟩,⟨28,2,0,1,0,⟨#[107,101,101,112,45,110,101,120,116]⟩⟩,⟨29,2,0,1,0,⟨#[107,101,101,112,45,108,105,110,101,115]⟩⟩,⟨30,2,0,1,1,⟨#[119,105,100,111,119]⟩⟩,⟨31,2,0,1,0,⟨#[112,97,103,101,45,98,101,102,111,114,101]⟩⟩,⟨32,2,0,9,0,⟨#[111,117,116,108,105,110,101]⟩⟩,⟨33,2,0,1073741824,0,⟨#[108,105,115,116]⟩⟩,⟨34,2,1,9,1,⟨#[108,101,118,101,108]⟩⟩,⟨35,2,0,32767,0,⟨#[114,101,115,116,97,114,116]⟩⟩,⟨36,2,1,31680,720,⟨#[116,97,98,45,115,116,111,112]⟩⟩,⟨37,2,0,1,0,⟨#[104,121,112,104,101,110,97,116,101]⟩⟩,⟨40,3,720,31680,12240,⟨#[112,97,103,101,45,119,105,100,116,104]⟩⟩,⟨41,3,720,31680,15840,⟨#[112,97,103,101,45,104,101,105,103,104,116]⟩⟩,⟨42,3,0,31680,1440,⟨#[116,111,112]⟩⟩,⟨43,3,0,31680,1440,⟨#[98,111,116,116,111,109]⟩⟩,⟨44,3,0,31680,1440,⟨#[105,110,110,101,114]⟩⟩,⟨45,3,0,31680,1440,⟨#[111,117,116,101,114]⟩⟩,⟨46,3,0,32767,0,⟨#[102,105,114,115,116,45,112,97,103,101]⟩⟩,⟨47,3,1,6,1,⟨#[112,97,103,101,45,102,111,114,109,97,116]⟩⟩,⟨50,4,0,1,0,⟨#[104,101,97,100,101,114]⟩⟩,⟨51,4,0,1,0,⟨#[99,97,110,116,45,115,112,108,105,116]⟩⟩,⟨52,4,0,31680,0,⟨#[114,111,119,45,104,101,105,103,104,116]⟩⟩,⟨60,5,1,32,1,⟨#[99,111,108,117,109,110,45,115,112,97,110]⟩⟩,⟨61,5,0,2,0,⟨#[118,101,114,116,105,99,97,108,45,109,101,114,103,101]⟩⟩,⟨62,5,0,31680,0,⟨#[99,101,108,108,45,119,105,100,116,104]⟩⟩,⟨63,5,0,16777215,16777215,⟨#[115,104,97,100,101]⟩⟩,⟨70,6,0,31680,0,⟨#[116,97,98,108,101,45,119,105,100,116,104]⟩⟩,⟨71,6,0,2,0,⟨#[116,97,98,108,101,45,97,108,105,103,110]⟩⟩]
set_option maxRecDepth 20000 in
theorem anJ (G:GH) (w0:World) (hG:Hold G w0):Calls prog 250 #[] w0 (bH w0 G fun u G'=>av G' (.sl 6 (Hg.map ku.dat)) u):=by
 refine eN [] func250 rfl ntmps250 rfl rfl hG ?_;intro a H;refine kP H (SR fun _ K1=>ak K1 rfl (SR fun _ K2=>?_));clear H K1;intro a H;(iterate 45 refine jv adr [_,_,_,_,_,_] H wn rfl rfl rfl rfl ?_;clear H;intro a H);refine aqw MW vQ (Hg.map ku.cells) H wn rfl rfl rfl rfl rfl rfl rfl ?_;clear H;intro b46 a w atL H;refine kH H (ak K2 rfl ?_);clear H K2;intro a H;refine lr H results250 rfl ?_;obtain ⟨Gz,hmz,hbz,H⟩:=H.eH;exact H.rt (av.fG (n:=45) (cap:=45) hbz rfl (bL _) (show 45≤maxLen by decide) (iX (bL _)) (anI _ _))
theorem Ve (G:GH) (w0:World) (hG:Hold G w0) (x:Int):Calls prog 174 #[vi x] w0 (bH w0 G fun u G'=>u=.bool false∧G=G'):=by
 refine eN [(0,_)] func174 rfl ntmps174 rfl rfl hG ?_;intro a H;exact kP H (SR fun _ K1=>ak K1 rfl (SR fun _ K2=>Rm rfl (Rm rfl (Rc rfl (ak K2 rfl (LR results174 rfl fun H=>H.rt ⟨by simp,rfl⟩))))))
theorem RH {x y z:Int} (h:(x < y∧z=-1)∨(y < x∧z=1)∨(x=y∧z=0)):z=BP x y:=by
 unfold BP;split
 ·omega
 split <;> omega
theorem Yv (G:GH) (w0:World) (hG:Hold G w0) (x y:Int):Calls prog 253 #[vi x,vi y] w0 (bH w0 G fun u G'=>u=vi (BP x y)):=by
 refine eN [(0,_),(1,_)] func253 rfl ntmps253 rfl rfl hG ?_;intro a H;refine kP H (SR fun _ K1=>ak K1 rfl (SR fun _ K2=>Rm rfl ?_));clear H K1;intro a H;refine s_call R5 H wn rfl (Ve _ _ H.ro x) rfl ?_;clear H;rintro v8 G8 a w ⟨rfl,-⟩ wF H;refine kH H (ak K2 rfl (SR fun _ K3=>Rm rfl ?_));clear H K2;intro a H;refine s_call R5 H wn rfl (Ve _ _ H.ro y) rfl ?_;clear H;rintro v10 CK a w ⟨rfl,-⟩ EF H;refine kH H (ak K3 rfl (SQ fun _ K4=>SR fun _ K5=>Rm rfl (Kz K5 (Cd rfl ?_ ?_)))) <;> clear H K3 K5
 ·intro h11 a H
  cases h11
 intro h11 a H
 try have rM:=dF h11
 refine kP H (Kc K4 (SQ fun _ K6=>SR fun _ K7=>Rm rfl (Kz K7 (Cd rfl ?_ ?_)))) <;> clear H K4 K7
 ·intro fD a H
  cases fD
 intro fD a H
 try have qp:=dF fD
 refine kP H (Kc K6 (SQ fun _ K8=>SR fun _ K9=>Rm rfl (Rm rfl (Rc rfl (Kz K9 (Cd rfl ?_ ?_)))))) <;> clear H K6 K9
 ·intro h16 a H
  try have p16:=dT h16
  exact kP H (SR fun _ aW=>ak aW rfl (LR results253 rfl fun H=>H.rt (aB vi (RH (by omega)))))
 intro h16 a H
 try have p16:=dF h16
 refine kP H (Kc K8 (SQ fun _ bO=>SR fun _ bW=>Rm rfl (Rm rfl (Rc rfl (Kz bW (Cd rfl ?_ ?_)))))) <;> clear H K8 bW
 ·intro h19 a H
  try have sO:=dT h19
  exact kP H (SR fun _ cB=>ak cB rfl (LR results253 rfl fun H=>H.rt (aB vi (RH (by omega)))))
 intro h19 a H
 try have sO:=dF h19
 exact kP H (Kc bO (SR fun _ dw=>ak dw rfl (LR results253 rfl fun H=>H.rt (aB vi (RH (by omega))))))
def lM (l:List aO):List aj:=(l.map aO.cells).flatten
theorem RO:∀ l:List aO,(lM l).length=l.length*2
 | []=>rfl
 | p :: l=>by
  have:=RO l
  simp only [lM,fO,List.flatten_cons,iN] at this ⊢
  rw [this,show p.cells.length=2 from rfl,kW];omega
theorem KJ (l m:List aO):lM (l++m)=lM l++lM m:=by simp [lM]
theorem apn {G:GH} {l:List aO} {xs:List aj} (h:bR G 2 (l.map aO.dat) xs):xs=lM l:=by
 obtain ⟨css,rfl,h2,h3⟩:=h;rw [aZ] at h2
 have e:css=l.map aO.cells:=by
  apply List.ext_getElem?
  intro j;rw [pE]
  by_cases hj:j < l.length
  ·have h4:=(h3 j l[j].dat css[j] (by simp [hj]) (eD (by omega))).1;rw [eD hj,eD (by omega),PO h4];rfl
  rw [List.getElem?_eq_none (by omega),List.getElem?_eq_none (by omega)];rfl
 rw [e];rfl
theorem agr {G:GH} {w0:World} (hO:gL G [] w0) (l:List aO) (v:aj) (hv:av G (.sl 2 (l.map aO.dat)) v) (hz:l.length≤4294967296) :
  Calls prog 168 #[v] w0 (gy w0 G [] fun u G' L'=>bY 187 2 u l.length (lM l) L'):=by
 obtain ⟨A,c,rfl,_,_,-⟩:=hv.slice;obtain ⟨hn,hc1,hc2,hnil,hx⟩:=hv.cells;rw [aZ] at *;refine iY (N:=8) (T:=[(0,_)]) func168 rfl ntmps168 rfl rfl hO ?_;intro a H;refine kP H (SR fun _ K1=>ak K1 rfl (SQ fun _ K2=>SR fun _ K3=>Rm rfl ?_));clear H K1;intro a H;refine Cu gG H wn rfl rfl ?_;clear H;intro a H;refine K3 _ _ ?_;clear K3;refine jC H rfl ?_ ?_
 ·intro h4
  refine kP H (SR fun _ K4=>ak K4 rfl ?_);clear H K4;intro a H;refine lr H results168 rfl ?_
  have e:l=[]:=by simpa using hnil (by simpa using h4)
  subst e;exact H.hp.dJ bY.nil
 intro h4
 try have p4:=dF h4
 refine fZ ?_;refine K2 _ _ ?_;clear K2;refine bN (fun _ K5=>?_)
 have hA:¬ A=none:=by intro e;rw [e] at h4;cases h4
 refine mP ?_;refine Cq gG gT H wn rfl ?_;clear H;intro b5 a w hb5 H;refine kH H (Rm rfl ?_);clear H;intro a H
 by_cases hr0:l=[]
 ·subst hr0;refine Bf gG gT H wn rfl rfl (bL _) rfl ?_;clear H;intro a H;exact kH H (bC K5 rfl (LR results168 rfl fun H=>H.hp.dJ bY.empty))
 obtain ⟨b,o,xs,rfl,hxl,hxc,hx1,dP⟩:=hx (by simpa using hr0);obtain rfl:=apn dP;refine nk (Li:=[]) (Lo:=[_]) (news:=lM l) gG gT rfl rfl H wn rfl rfl bY.empty hxl (fun j u hj=>H.hp.aI (hxc j u hj)) hx1 (by omega) (by omega) rfl ?_;clear H;intro v7 Lo a w hrow H;rw [gJ,lK] at hrow;exact kH H (bC K5 rfl (LR results168 rfl fun H=>H.hp.dJ hrow))
theorem acu {G:GH} {w0:World} (hO:gL G [] w0) (l:List aO) (v:aj) (hv:av G (.sl 2 (l.map aO.dat)) v) (hz:l.length≤4294967296) :
  Calls prog 159 #[v] w0 (gy w0 G [] fun u G' L'=>bY 187 2 u l.length (lM l) L'):=by
 obtain ⟨A,c,rfl,_,_,-⟩:=hv.slice;rw [aZ] at *;refine iY (N:=5) (T:=[(0,_)]) func159 rfl ntmps159 rfl rfl hO ?_;intro a H;refine kP H (SR fun _ K1=>ak K1 rfl (SR fun _ K2=>Rm rfl ?_));clear H K1;intro a H;refine gW Oc (Li:=[]) (L:=[]) H wn rfl (agr (Hp.owns (Li:=[]) H.hp) l _ hv hz) rfl ?_;clear H;rintro v4 G4 L4 a w hrw LV H;dsimp only [List.nil_append] at H;obtain ⟨A4,c4,rfl,-,-⟩:=hrw.shape;exact kH H (ak K2 rfl (LR results159 rfl fun H=>H.hp.dJ hrw))
theorem ajR:dN prog 296 0 0:=⟨by kernel_rfl⟩
theorem Zf:∀ args w,(callFunc 253 args).run prog w=.ok (.enter 253 args) w:=enters func253 rfl (by kernel_rfl)
theorem JX:prog.underlying 199=some (.int .u64):=by kernel_rfl
theorem xq:dN prog 187 0 0:=⟨by kernel_rfl⟩
theorem aiN:∀ args w,(callFunc 252 args).run prog w=.ok (.enter 252 args) w:=enters func252 rfl (by kernel_rfl)
theorem aiQ:∀ args w,(callFunc 261 args).run prog w=.ok (.enter 261 args) w:=enters func261 rfl (by kernel_rfl)
theorem Yi (G:GH) (w0:World) (hG:Hold G w0) (x:ku) (t:Int):sS prog (.func (.func 252) #[] #[]) [.agg x.cells.toArray,vi t] w0 (bH w0 G fun u G'=>u=vi (BP x.num t)):=by
 refine jI (caps:=[]) aiN ?_;refine eN [(0,_),(1,_)] func252 rfl ntmps252 rfl rfl hG ?_;intro a H;refine bZ (fun _ K1=>?_);refine dZ (cs:=[_,_,_,_,_,_]) H wn rfl rfl rfl ?_;clear H;intro b2 a w hb2 H;refine kH H (ak K1 rfl (SR fun _ K2=>bG ajR aH 0 rfl rfl (Rm rfl ?_)));clear H K1;intro a H;refine s_call Zf H wn rfl (Yv _ _ H.ro x.num t) rfl ?_;clear H;rintro v8 G8 a w rfl wF H;exact kH H (ak K2 rfl (LR results252 rfl fun H=>H.rt rfl))
theorem afi (G:GH) (w0:World) (hG:Hold G w0) (l:List ku) (t:Int) (v:aj) (hv:av G (.sl 6 (l.map ku.dat)) v) (hl:l.length≤4294967296) :
  Calls prog 251 #[v,vi t,.func (.func 252) #[] #[]] w0 (bH w0 G fun u G'=>u=.tuple #[vi (iG (l.map ku.num) t),.bool (qm (l.map ku.num) t)]):=by
 obtain ⟨A,c,rfl,hc1,hc2,-⟩:=hv.slice;rw [aZ] at *;obtain ⟨p,hp⟩:∃ p:Nat→Bool,p=fun h=>decide (¬ (l.map ku.num).getD h 0 < t):=⟨_,rfl⟩
 have hbs:iG (l.map ku.num) t=lY p l.length 0 l.length:=by rw [hp,iG,aZ]
 refine eN [(0,_),(1,_),(2,_)] func251 rfl ntmps251 rfl rfl hG ?_;intro a H;refine kP H (SR fun _ K1=>Ra rfl (ak K1 rfl (SR fun _ K2=>Rm rfl (Rl MW rfl (ak K2 rfl (SR fun _ K3=>Rm rfl (Ra rfl (ak K3 rfl (SQ fun _ K4=>SB ?_)))))))));clear H K1 K2 K3;intro a H;skip;refine fH (ι:=Nat × Nat × Nat × GH) (Tc:=[(0,_),(1,_),(2,_),(8,_)]) (Lc:=[]) (fun gh=>[(9,vi gh.1),(10,vi gh.2.1)]) (fun gh=>[]) (fun gh=>gh.2.2.2) (fun gh=>gh.1≤gh.2.1∧gh.2.1≤l.length∧gh.2.1 - gh.1≤gh.2.2.1∧lY p gh.2.2.1 gh.1 gh.2.1=iG (l.map ku.num) t∧(∀ b o,G b=some o→gh.2.2.2 b=some o)) (fun gh=>gh.2.1 - gh.1) ((0,l.length,l.length,G)) (by exact (H).sub ⟨rfl,rfl,rfl,rfl,rfl,rfl,aC⟩) ?_ ?_
 ·exact ⟨gY _,bL _,Nat.sub_le _ _,hbs.symm,fun _ _ h=>h⟩
 clear H;rintro ⟨i,j,f,g⟩ a w hI H;dsimp only at hI H;obtain ⟨hij,hj,hf1,heq,hgm⟩:=hI;have Ci:=hv.mono hgm;dsimp only [lca,bq] at H;refine kP H (SQ fun _ K5=>SR fun _ K6=>Rm rfl (Rm rfl (Rc rfl (Kz K6 (Cd rfl ?_ ?_))))) <;> clear H K6
 ·intro eY a H
  try have nH:=dT eY
  have hlt:i < j:=by omega
  rw [U3 hf1 hlt] at heq;obtain ⟨m,hm⟩:∃ m,m=(i+j) / 2:=⟨_,rfl⟩;rw [← hm] at heq
  have hml:m < l.length:=by omega
  obtain ⟨b,o,rfl,hrow⟩:=Vh Ci hml
  have hpm:p m=decide (¬ l[m].num < t):=by rw [hp];dsimp only;rw [getD_map hml]
  rw [hpm] at heq;refine kP H (Kc K5 (SB (SR fun _ K7=>Rm rfl (Rm rfl (Rd rfl ?_)))));clear H K5;intro a H;rw [show ((i:Int)+(j:Int))=((i+j:Nat):Int) by push_cast;rfl] at H;refine Cr ((i+j:Nat):Int) JX lJ H wn rfl (U4 (by omega) (by omega)) rfl ?_;clear H;intro a H;refine Qd _ H wn rfl rfl rfl (by decide) rfl ?_;clear H;intro a H;rw [U1,← hm] at H;refine Cr (m:Int) lJ JX H wn rfl (GY (by omega) (by omega)) rfl ?_;clear H;intro a H;refine kH H (ak K7 rfl (SR fun _ K8=>Rm rfl (Rm rfl (Rm rfl (Ri MW vQ rfl rfl ?_)))));clear H K7;intro a H;refine bB vQ (cs:=[_,_,_,_,_,_]) H wn rfl rfl (fun j v hj=>H.hp.aI (hrow j v hj)) rfl ?_;clear H;intro a H;refine kH H (Rm rfl ?_);clear H;intro a H;refine kD H wn rfl rfl (Yi _ _ H.ro l[m] t) rfl ?_;clear H;rintro v30 zY a w rfl Az H;refine kH H (Rc rfl (Kz K8 (Cd rfl ?_ ?_))) <;> clear H K8
  ·intro h31 a H
   try have p31:=dT h31
   rw [ah (by simpa using NV.1 p31)] at heq;refine kP H (SC (Rm rfl (Rd rfl (Ra rfl ?_))));clear H;intro a H;refine aD ?_;refine dM ((m+1,j,f - 1,zY)) (by exact (H).sub ⟨rfl,rfl,rfl,rfl,rfl,rfl,aC⟩) ?_
   (try dsimp only);exact ⟨by omega,hj,by omega,heq,fun b o h=>Az b o (hgm b o h)⟩
  intro h31 a H
  try have p31:=dF h31
  rw [au (by simpa using fun h=>p31 (NV.2 h))] at heq;refine kP H (SC (Rm rfl (Ra rfl ?_)));clear H;intro a H;refine aD ?_;refine dM ((i,m,f - 1,zY)) (by exact (H).sub ⟨rfl,rfl,rfl,rfl,rfl,rfl,aC⟩) ?_
  (try dsimp only);exact ⟨by omega,by omega,by omega,heq,fun b o h=>Az b o (hgm b o h)⟩
 intro eY a H
 try have nH:=dF eY
 refine eu ?_;refine K4 _ _ ?_;clear K4;refine bN (fun _ K9=>?_);rw [U0 (by omega)] at heq;refine kP H (SC (Rm rfl (Rm rfl (Rm rfl (Rc rfl (Rm rfl (Sp 39 rfl ?_ ?_))))))) <;> clear H
 ·intro jq a H
  try have p39:=dT jq
  have hil:i < l.length:=by omega
  obtain ⟨b,o,rfl,hrow⟩:=Vh Ci hil;refine kH H (YM jq rfl (YM jq rfl (YM jq rfl (YI MW vQ jq rfl rfl ?_))));clear H;intro a H;refine bB vQ (cs:=[_,_,_,_,_,_]) H (wg H rfl rfl jq) rfl rfl (fun j v hj=>H.hp.aI (hrow j v hj)) rfl ?_;clear H;intro a H;refine kH H (YM jq rfl ?_);clear H;intro a H;refine kD H (wg H rfl rfl jq) rfl rfl (Yi _ _ H.ro l[i] t) rfl ?_;clear H;rintro v46 Ka a w rfl yL H;refine kH H (YC jq rfl (Pt jq rfl (Ra rfl (bC K9 rfl ?_))));clear H K9;intro a H;refine bS ?_;refine (eZ H results251 (.cons (aV H rfl) (.cons (aV H rfl) .nil)) ?_).1;exact H.rt (by rw [LH heq.symm (by rw [aZ];omega),← heq];simp)
 intro jq a H
 try have p39:=dF jq
 refine kH H (bD jq rfl (bD jq rfl (aP jq rfl (Pf jq rfl (Ra rfl (bC K9 rfl ?_))))));clear H K9;intro a H;refine bS ?_;refine (eZ H results251 (.cons (aV H rfl) (.cons (aV H rfl) .nil)) ?_).1;exact H.rt (by rw [LK heq.symm (by rw [aZ];omega),← heq])
theorem Yj (G:GH) (w0:World) (hG:Hold G w0) (x:aO) (t:Int):sS prog (.func (.func 261) #[] #[]) [.agg x.cells.toArray,vi t] w0 (bH w0 G fun u G'=>u=vi (BP x.key t)):=by
 refine jI (caps:=[]) aiQ ?_;refine eN [(0,_),(1,_)] func261 rfl ntmps261 rfl rfl hG ?_;intro a H;refine bZ (fun _ K1=>?_);refine dZ (cs:=[_,_]) H wn rfl rfl rfl ?_;clear H;intro b2 a w hb2 H;refine kH H (ak K1 rfl (SR fun _ K2=>bG xq aH 0 rfl rfl (Rm rfl ?_)));clear H K1;intro a H;refine s_call Zf H wn rfl (Yv _ _ H.ro x.key t) rfl ?_;clear H;rintro v8 G8 a w rfl wF H;exact kH H (ak K2 rfl (LR results261 rfl fun H=>H.rt rfl))
theorem afj (G:GH) (w0:World) (hG:Hold G w0) (l:List aO) (t:Int) (v:aj) (hv:av G (.sl 2 (l.map aO.dat)) v) (hl:l.length≤4294967296) :
  Calls prog 260 #[v,vi t,.func (.func 261) #[] #[]] w0 (bH w0 G fun u G'=>u=.tuple #[vi (iG (l.map aO.key) t),.bool (qm (l.map aO.key) t)]):=by
 obtain ⟨A,c,rfl,hc1,hc2,-⟩:=hv.slice;rw [aZ] at *;obtain ⟨p,hp⟩:∃ p:Nat→Bool,p=fun h=>decide (¬ (l.map aO.key).getD h 0 < t):=⟨_,rfl⟩
 have hbs:iG (l.map aO.key) t=lY p l.length 0 l.length:=by rw [hp,iG,aZ]
 refine eN [(0,_),(1,_),(2,_)] func260 rfl ntmps260 rfl rfl hG ?_;intro a H;refine kP H (SR fun _ K1=>Ra rfl (ak K1 rfl (SR fun _ K2=>Rm rfl (Rl gG rfl (ak K2 rfl (SR fun _ K3=>Rm rfl (Ra rfl (ak K3 rfl (SQ fun _ K4=>SB ?_)))))))));clear H K1 K2 K3;intro a H;skip;refine fH (ι:=Nat × Nat × Nat × GH) (Tc:=[(0,_),(1,_),(2,_),(8,_)]) (Lc:=[]) (fun gh=>[(9,vi gh.1),(10,vi gh.2.1)]) (fun gh=>[]) (fun gh=>gh.2.2.2) (fun gh=>gh.1≤gh.2.1∧gh.2.1≤l.length∧gh.2.1 - gh.1≤gh.2.2.1∧lY p gh.2.2.1 gh.1 gh.2.1=iG (l.map aO.key) t∧(∀ b o,G b=some o→gh.2.2.2 b=some o)) (fun gh=>gh.2.1 - gh.1) ((0,l.length,l.length,G)) (by exact (H).sub ⟨rfl,rfl,rfl,rfl,rfl,rfl,aC⟩) ?_ ?_
 ·exact ⟨gY _,bL _,Nat.sub_le _ _,hbs.symm,fun _ _ h=>h⟩
 clear H;rintro ⟨i,j,f,g⟩ a w hI H;dsimp only at hI H;obtain ⟨hij,hj,hf1,heq,hgm⟩:=hI;have Ci:=hv.mono hgm;dsimp only [lca,bq] at H;refine kP H (SQ fun _ K5=>SR fun _ K6=>Rm rfl (Rm rfl (Rc rfl (Kz K6 (Cd rfl ?_ ?_))))) <;> clear H K6
 ·intro eY a H
  try have nH:=dT eY
  have hlt:i < j:=by omega
  rw [U3 hf1 hlt] at heq;obtain ⟨m,hm⟩:∃ m,m=(i+j) / 2:=⟨_,rfl⟩;rw [← hm] at heq
  have hml:m < l.length:=by omega
  obtain ⟨b,o,rfl,hrow⟩:=HV Ci hml
  have hpm:p m=decide (¬ l[m].key < t):=by rw [hp];dsimp only;rw [getD_map hml]
  rw [hpm] at heq;refine kP H (Kc K5 (SB (SR fun _ K7=>Rm rfl (Rm rfl (Rd rfl ?_)))));clear H K5;intro a H;rw [show ((i:Int)+(j:Int))=((i+j:Nat):Int) by push_cast;rfl] at H;refine Cr ((i+j:Nat):Int) JX lJ H wn rfl (U4 (by omega) (by omega)) rfl ?_;clear H;intro a H;refine Qd _ H wn rfl rfl rfl (by decide) rfl ?_;clear H;intro a H;rw [U1,← hm] at H;refine Cr (m:Int) lJ JX H wn rfl (GY (by omega) (by omega)) rfl ?_;clear H;intro a H;refine kH H (ak K7 rfl (SR fun _ K8=>Rm rfl (Rm rfl (Rm rfl (Ri gG gT rfl rfl ?_)))));clear H K7;intro a H;refine bB gT (cs:=[_,_]) H wn rfl rfl (fun j v hj=>H.hp.aI (hrow j v hj)) rfl ?_;clear H;intro a H;refine kH H (Rm rfl ?_);clear H;intro a H;refine kD H wn rfl rfl (Yj _ _ H.ro l[m] t) rfl ?_;clear H;rintro v30 zY a w rfl Az H;refine kH H (Rc rfl (Kz K8 (Cd rfl ?_ ?_))) <;> clear H K8
  ·intro h31 a H
   try have p31:=dT h31
   rw [ah (by simpa using NV.1 p31)] at heq;refine kP H (SC (Rm rfl (Rd rfl (Ra rfl ?_))));clear H;intro a H;refine aD ?_;refine dM ((m+1,j,f - 1,zY)) (by exact (H).sub ⟨rfl,rfl,rfl,rfl,rfl,rfl,aC⟩) ?_
   (try dsimp only);exact ⟨by omega,hj,by omega,heq,fun b o h=>Az b o (hgm b o h)⟩
  intro h31 a H
  try have p31:=dF h31
  rw [au (by simpa using fun h=>p31 (NV.2 h))] at heq;refine kP H (SC (Rm rfl (Ra rfl ?_)));clear H;intro a H;refine aD ?_;refine dM ((i,m,f - 1,zY)) (by exact (H).sub ⟨rfl,rfl,rfl,rfl,rfl,rfl,aC⟩) ?_
  (try dsimp only);exact ⟨by omega,by omega,by omega,heq,fun b o h=>Az b o (hgm b o h)⟩
 intro eY a H
 try have nH:=dF eY
 refine eu ?_;refine K4 _ _ ?_;clear K4;refine bN (fun _ K9=>?_);rw [U0 (by omega)] at heq;refine kP H (SC (Rm rfl (Rm rfl (Rm rfl (Rc rfl (Rm rfl (Sp 39 rfl ?_ ?_))))))) <;> clear H
 ·intro jq a H
  try have p39:=dT jq
  have hil:i < l.length:=by omega
  obtain ⟨b,o,rfl,hrow⟩:=HV Ci hil;refine kH H (YM jq rfl (YM jq rfl (YM jq rfl (YI gG gT jq rfl rfl ?_))));clear H;intro a H;refine bB gT (cs:=[_,_]) H (wg H rfl rfl jq) rfl rfl (fun j v hj=>H.hp.aI (hrow j v hj)) rfl ?_;clear H;intro a H;refine kH H (YM jq rfl ?_);clear H;intro a H;refine kD H (wg H rfl rfl jq) rfl rfl (Yj _ _ H.ro l[i] t) rfl ?_;clear H;rintro v46 Ka a w rfl yL H;refine kH H (YC jq rfl (Pt jq rfl (Ra rfl (bC K9 rfl ?_))));clear H K9;intro a H;refine bS ?_;refine (eZ H results260 (.cons (aV H rfl) (.cons (aV H rfl) .nil)) ?_).1;exact H.rt (by rw [LH heq.symm (by rw [aZ];omega),← heq];simp)
 intro jq a H
 try have p39:=dF jq
 refine kH H (bD jq rfl (bD jq rfl (aP jq rfl (Pf jq rfl (Ra rfl (bC K9 rfl ?_))))));clear H K9;intro a H;refine bS ?_;refine (eZ H results260 (.cons (aV H rfl) (.cons (aV H rfl) .nil)) ?_).1;exact H.rt (by rw [LK heq.symm (by rw [aZ];omega),← heq])
theorem aiL:∀ args w,(callFunc 250 args).run prog w=.ok (.enter 250 args) w:=enters func250 rfl (by kernel_rfl)
theorem aiM:∀ args w,(callFunc 251 args).run prog w=.ok (.enter 251 args) w:=enters func251 rfl (by kernel_rfl)
theorem uQ:prog.underlying 41=some (.slice 3):=by kernel_rfl
theorem aiO:∀ args w,(callFunc 254 args).run prog w=.ok (.enter 254 args) w:=enters func254 rfl (by kernel_rfl)
theorem Zd:∀ args w,(callFunc 226 args).run prog w=.ok (.enter 226 args) w:=enters func226 rfl (by kernel_rfl)
theorem aiC:∀ args w,(callFunc 228 args).run prog w=.ok (.enter 228 args) w:=enters func228 rfl (by kernel_rfl)
theorem ajS:dN prog 296 1 1:=⟨by kernel_rfl⟩
theorem aiB:∀ args w,(callFunc 227 args).run prog w=.ok (.enter 227 args) w:=enters func227 rfl (by kernel_rfl)
theorem ajT:dN prog 296 2 2:=⟨by kernel_rfl⟩
theorem ajU:dN prog 296 3 3:=⟨by kernel_rfl⟩
def kz:ku:=⟨0,0,0,0,0,⟨#[]⟩⟩
def Hf:List Int:=Hg.map ku.num
def vk (k:Int):ku × Bool:=if qm Hf k=true then (Hg.getD (iG Hf k) kz,true) else (kz,false)
theorem find_spec (G:GH) (w0:World) (hG:Hold G w0) (k:Int):Calls prog 226 #[vi k] w0 (bH w0 G fun u G'=>u=.tuple #[.agg (vk k).1.cells.toArray,.bool (vk k).2]):=by
 refine eN [(0,_)] func226 rfl ntmps226 rfl rfl hG ?_;intro a H;refine bZ (fun _ K1=>?_);refine dB vQ H wn rfl ?_;clear H;intro b2 a w hb2 H;refine kH H (ak K1 rfl (SR fun _ K2=>?_));clear H K1;intro a H;refine s_call aiL H wn rfl (anJ _ _ H.ro) rfl ?_;clear H;rintro v7 G7 a w hv7 AB H;obtain ⟨A,c,rfl,hc1,hc2,-⟩:=hv7.slice;rw [aZ] at *;refine kH H (ak K2 rfl (SR fun _ K3=>Rm rfl (Rm rfl ?_)));clear H K2;intro a H;refine s_call aiM H wn rfl (afi _ _ H.ro Hg k _ hv7 (by decide)) rfl ?_;clear H;rintro v11 tO a w rfl Dp H;have hv7:=hv7.mono Dp;have hkn:Hg.map ku.num=Hf:=rfl;rw [hkn] at H;obtain ⟨n,hn⟩:∃ n,n=iG Hf k:=⟨_,rfl⟩;obtain ⟨q,hq⟩:∃ q,q=qm Hf k:=⟨_,rfl⟩;rw [← hn,← hq] at H;refine kH H (Rm rfl ?_);clear H;intro a H;(iterate 2 refine lS H wn rfl rfl rfl ?_;clear H;intro a H);refine kH H (Ra rfl (ak K3 rfl (SQ fun _ K4=>SR fun _ K5=>Rm rfl (Rn rfl (Kz K5 (Cd rfl ?_ ?_)))))) <;> clear H K3 K5
 ·intro iD a H
  refine bZ (fun _ K6=>?_);refine jv adr [_,_,_,_,_,_] H wn rfl rfl rfl rfl ?_;clear H;intro a H;refine aY vQ 0 (vs:=[_,_,_,_,_,_]) _ H wn rfl rfl rfl rfl rfl rfl rfl rfl ?_;clear H;intro w H;dsimp only [List.set,setRow] at H;refine kH H (ak K6 rfl ?_);clear H K6;intro a H;refine bS ?_;refine (eZ H results226 (.cons (ng vQ (cs:=[_,_,_,_,_,_]) H rfl rfl (H.hp.bU 0 rfl rfl)) (.cons (aV H rfl) .nil)) ?_).1;exact H.rt (by rw [vk,ah (by rw [← hq];simpa using iD)];rfl)
 intro iD a H
 try have pR:=dF iD
 have hlt:n < Hg.length:=by have:=LJ (ks:=Hf) (t:=k) (by rw [← hq];simpa using iD);rw [← hn] at this;simpa [Hf] using this
 obtain ⟨b,o,rfl,hrow⟩:=Vh hv7 hlt;refine kP H (Kc K4 (SR fun _ K7=>Rm rfl (Rm rfl (Ri MW vQ rfl rfl ?_))));clear H K4;intro a H;refine bB vQ (cs:=[_,_,_,_,_,_]) H wn rfl rfl (fun j v hj=>H.hp.aI (hrow j v hj)) rfl ?_;clear H;intro a H;refine aY vQ 0 (vs:=[_,_,_,_,_,_]) _ H wn rfl rfl rfl rfl rfl rfl rfl rfl ?_;clear H;intro w H;dsimp only [List.set,setRow] at H;refine kH H (ak K7 rfl ?_);clear H K7;intro a H;refine bS ?_;refine (eZ H results226 (.cons (ng vQ (cs:=[_,_,_,_,_,_]) H rfl rfl (H.hp.bU 0 rfl rfl)) (.cons (aV H rfl) .nil)) ?_).1;exact H.rt (by rw [vk,au (by rw [← hq];simpa using iD),← hn,List.getD_eq_getElem?_getD,eD hlt];rfl)
def eX (e:Int):List Int:=if e=1∨e=4∨e=5∨e=6 then [1] else if e=2 then [1,2] else if e=3 then [3] else if e=7 then [6] else if e=9 then [4] else if e=10 then [5] else []
theorem fU (G:GH) (A:List Int):bR G 1 (A.map fun k=>[li k]) (A.map vi):=by
 refine ⟨A.map fun k=>[vi k],?_,by simp,fun j r cs hr hc=>?_⟩
 ·induction A with
  | nil=>rfl
  | cons a A ih=>simpa using ih
 rw [pE] at hr hc
 cases h:A[j]? with
 | none=>rw [h] at hr;cases hr
 | some x =>
  rw [h] at hr hc
  cases hr;cases hc
  exact ⟨by simp only [aR];exact ⟨_,_,rfl,by simp [av,Value.oneCell'],rfl⟩,rfl⟩
theorem aky (G:GH) (w0:World) (hG:Hold G w0) (e:Int):Calls prog 228 #[vi e] w0 (bH w0 G fun u G'=>av G' (.sl 1 ((eX e).map fun k=>[li k])) u):=by
  refine eN [(0,_)] func228 rfl ntmps228 rfl rfl hG ?_;intro a H;refine kP H (SR fun _ K1=>ak K1 rfl (SQ fun _ K2=>SR fun _ K3=>Rm rfl (Kz K3 (SB (SQ fun _ K4=>SR fun _ K5=>Rc rfl (ak K5 rfl (Cd rfl ?_ ?_))))))) <;> clear H K1 K3 K5
  · intro h4 a H
    try have p4:=dT h4
    refine kP H (Kc K4 (Ct rfl h4 (SR fun _ K6=>?_)));clear H K4;intro a H;refine ig uQ aH [_] [_] H wn rfl rfl rfl rfl rfl (by intro i q h;match i,h with|0,h=>exact h|n+1,h=>simp at h) rfl rfl ?_;clear H;intro b9 a w zD H;refine kH H (ak K6 rfl ?_);clear H K6;intro a H;refine lr H results228 rfl ?_
    first
      | exact H.rt (by rw [eX,ah (by omega),ah (by omega),ah (by omega),ah (by omega),ah (by omega),ah (by omega)];exact av.iL rfl (by decide))
      | (obtain ⟨Gz,hmz,hbz,H⟩:=H.eH
         first
           | exact H.rt (by rw [eX,au (by omega)];exact av.fG (n:=1) (cap:=1) hbz rfl (bL _) (show 1≤maxLen by decide) rfl (fU _ [1]))
           | exact H.rt (by rw [eX,ah (by omega),au (by omega)];exact av.fG (n:=2) (cap:=2) hbz rfl (bL _) (show 2≤maxLen by decide) rfl (fU _ [1,2]))
           | exact H.rt (by rw [eX,ah (by omega),ah (by omega),au (by omega)];exact av.fG (n:=1) (cap:=1) hbz rfl (bL _) (show 1≤maxLen by decide) rfl (fU _ [3]))
           | exact H.rt (by rw [eX,ah (by omega),ah (by omega),ah (by omega),au (by omega)];exact av.fG (n:=1) (cap:=1) hbz rfl (bL _) (show 1≤maxLen by decide) rfl (fU _ [6]))
           | exact H.rt (by rw [eX,ah (by omega),ah (by omega),ah (by omega),ah (by omega),au (by omega)];exact av.fG (n:=1) (cap:=1) hbz rfl (bL _) (show 1≤maxLen by decide) rfl (fU _ [4]))
           | exact H.rt (by rw [eX,ah (by omega),ah (by omega),ah (by omega),ah (by omega),ah (by omega),au (by omega)];exact av.fG (n:=1) (cap:=1) hbz rfl (bL _) (show 1≤maxLen by decide) rfl (fU _ [5])))
  intro h4 a H
  try have p4:=dF h4
  refine kP H (SR fun _ K7=>Rc rfl (ak K7 rfl (Cd rfl ?_ ?_))) <;> clear H K7
  · intro h4 a H
    try have p4:=dT h4
    refine kP H (Kc K4 (Ct rfl h4 (SR fun _ K8=>?_)));clear H K4;intro a H;refine ig uQ aH [_] [_] H wn rfl rfl rfl rfl rfl (by intro i q h;match i,h with|0,h=>exact h|n+1,h=>simp at h) rfl rfl ?_;clear H;intro b9 a w zD H;refine kH H (ak K8 rfl ?_);clear H K8;intro a H;refine lr H results228 rfl ?_
    first
      | exact H.rt (by rw [eX,ah (by omega),ah (by omega),ah (by omega),ah (by omega),ah (by omega),ah (by omega)];exact av.iL rfl (by decide))
      | (obtain ⟨Gz,hmz,hbz,H⟩:=H.eH
         first
           | exact H.rt (by rw [eX,au (by omega)];exact av.fG (n:=1) (cap:=1) hbz rfl (bL _) (show 1≤maxLen by decide) rfl (fU _ [1]))
           | exact H.rt (by rw [eX,ah (by omega),au (by omega)];exact av.fG (n:=2) (cap:=2) hbz rfl (bL _) (show 2≤maxLen by decide) rfl (fU _ [1,2]))
           | exact H.rt (by rw [eX,ah (by omega),ah (by omega),au (by omega)];exact av.fG (n:=1) (cap:=1) hbz rfl (bL _) (show 1≤maxLen by decide) rfl (fU _ [3]))
           | exact H.rt (by rw [eX,ah (by omega),ah (by omega),ah (by omega),au (by omega)];exact av.fG (n:=1) (cap:=1) hbz rfl (bL _) (show 1≤maxLen by decide) rfl (fU _ [6]))
           | exact H.rt (by rw [eX,ah (by omega),ah (by omega),ah (by omega),ah (by omega),au (by omega)];exact av.fG (n:=1) (cap:=1) hbz rfl (bL _) (show 1≤maxLen by decide) rfl (fU _ [4]))
           | exact H.rt (by rw [eX,ah (by omega),ah (by omega),ah (by omega),ah (by omega),ah (by omega),au (by omega)];exact av.fG (n:=1) (cap:=1) hbz rfl (bL _) (show 1≤maxLen by decide) rfl (fU _ [5])))
  intro h4 a H
  try have p4:=dF h4
  refine kP H (SR fun _ K9=>Rc rfl (ak K9 rfl (Cd rfl ?_ ?_))) <;> clear H K9
  · intro h4 a H
    try have p4:=dT h4
    refine kP H (Kc K4 (Ct rfl h4 (SR fun _ aW=>?_)));clear H K4;intro a H;refine ig uQ aH [_] [_] H wn rfl rfl rfl rfl rfl (by intro i q h;match i,h with|0,h=>exact h|n+1,h=>simp at h) rfl rfl ?_;clear H;intro b9 a w zD H;refine kH H (ak aW rfl ?_);clear H aW;intro a H;refine lr H results228 rfl ?_
    first
      | exact H.rt (by rw [eX,ah (by omega),ah (by omega),ah (by omega),ah (by omega),ah (by omega),ah (by omega)];exact av.iL rfl (by decide))
      | (obtain ⟨Gz,hmz,hbz,H⟩:=H.eH
         first
           | exact H.rt (by rw [eX,au (by omega)];exact av.fG (n:=1) (cap:=1) hbz rfl (bL _) (show 1≤maxLen by decide) rfl (fU _ [1]))
           | exact H.rt (by rw [eX,ah (by omega),au (by omega)];exact av.fG (n:=2) (cap:=2) hbz rfl (bL _) (show 2≤maxLen by decide) rfl (fU _ [1,2]))
           | exact H.rt (by rw [eX,ah (by omega),ah (by omega),au (by omega)];exact av.fG (n:=1) (cap:=1) hbz rfl (bL _) (show 1≤maxLen by decide) rfl (fU _ [3]))
           | exact H.rt (by rw [eX,ah (by omega),ah (by omega),ah (by omega),au (by omega)];exact av.fG (n:=1) (cap:=1) hbz rfl (bL _) (show 1≤maxLen by decide) rfl (fU _ [6]))
           | exact H.rt (by rw [eX,ah (by omega),ah (by omega),ah (by omega),ah (by omega),au (by omega)];exact av.fG (n:=1) (cap:=1) hbz rfl (bL _) (show 1≤maxLen by decide) rfl (fU _ [4]))
           | exact H.rt (by rw [eX,ah (by omega),ah (by omega),ah (by omega),ah (by omega),ah (by omega),au (by omega)];exact av.fG (n:=1) (cap:=1) hbz rfl (bL _) (show 1≤maxLen by decide) rfl (fU _ [5])))
  intro h4 a H
  try have p4:=dF h4
  refine kP H (SC (Rc rfl (bC K4 rfl (Cd rfl ?_ ?_)))) <;> clear H K4
  · intro h4 a H
    try have p4:=dT h4
    refine bZ (fun _ bO=>?_);refine ig uQ aH [_] [_] H wn rfl rfl rfl rfl rfl (by intro i q h;match i,h with|0,h=>exact h|n+1,h=>simp at h) rfl rfl ?_;clear H;intro b9 a w zD H;refine kH H (ak bO rfl ?_);clear H bO;intro a H;refine lr H results228 rfl ?_
    first
      | exact H.rt (by rw [eX,ah (by omega),ah (by omega),ah (by omega),ah (by omega),ah (by omega),ah (by omega)];exact av.iL rfl (by decide))
      | (obtain ⟨Gz,hmz,hbz,H⟩:=H.eH
         first
           | exact H.rt (by rw [eX,au (by omega)];exact av.fG (n:=1) (cap:=1) hbz rfl (bL _) (show 1≤maxLen by decide) rfl (fU _ [1]))
           | exact H.rt (by rw [eX,ah (by omega),au (by omega)];exact av.fG (n:=2) (cap:=2) hbz rfl (bL _) (show 2≤maxLen by decide) rfl (fU _ [1,2]))
           | exact H.rt (by rw [eX,ah (by omega),ah (by omega),au (by omega)];exact av.fG (n:=1) (cap:=1) hbz rfl (bL _) (show 1≤maxLen by decide) rfl (fU _ [3]))
           | exact H.rt (by rw [eX,ah (by omega),ah (by omega),ah (by omega),au (by omega)];exact av.fG (n:=1) (cap:=1) hbz rfl (bL _) (show 1≤maxLen by decide) rfl (fU _ [6]))
           | exact H.rt (by rw [eX,ah (by omega),ah (by omega),ah (by omega),ah (by omega),au (by omega)];exact av.fG (n:=1) (cap:=1) hbz rfl (bL _) (show 1≤maxLen by decide) rfl (fU _ [4]))
           | exact H.rt (by rw [eX,ah (by omega),ah (by omega),ah (by omega),ah (by omega),ah (by omega),au (by omega)];exact av.fG (n:=1) (cap:=1) hbz rfl (bL _) (show 1≤maxLen by decide) rfl (fU _ [5])))
  intro h4 a H
  try have p4:=dF h4
  refine kP H (SR fun _ bW=>Rc rfl (ak bW rfl (Cd rfl ?_ ?_))) <;> clear H bW
  · intro h10 a H
    try have nV:=dT h10
    refine bZ (fun _ cB=>?_);refine ig uQ aH [_,_] [_,_] H wn rfl rfl rfl rfl rfl (by intro i q h;match i,h with|0,h=>exact h|1,h=>exact h|n+2,h=>simp at h) rfl rfl ?_;clear H;intro b12 a w Gw H;refine kH H (ak cB rfl ?_);clear H cB;intro a H;refine lr H results228 rfl ?_
    first
      | exact H.rt (by rw [eX,ah (by omega),ah (by omega),ah (by omega),ah (by omega),ah (by omega),ah (by omega)];exact av.iL rfl (by decide))
      | (obtain ⟨Gz,hmz,hbz,H⟩:=H.eH
         first
           | exact H.rt (by rw [eX,au (by omega)];exact av.fG (n:=1) (cap:=1) hbz rfl (bL _) (show 1≤maxLen by decide) rfl (fU _ [1]))
           | exact H.rt (by rw [eX,ah (by omega),au (by omega)];exact av.fG (n:=2) (cap:=2) hbz rfl (bL _) (show 2≤maxLen by decide) rfl (fU _ [1,2]))
           | exact H.rt (by rw [eX,ah (by omega),ah (by omega),au (by omega)];exact av.fG (n:=1) (cap:=1) hbz rfl (bL _) (show 1≤maxLen by decide) rfl (fU _ [3]))
           | exact H.rt (by rw [eX,ah (by omega),ah (by omega),ah (by omega),au (by omega)];exact av.fG (n:=1) (cap:=1) hbz rfl (bL _) (show 1≤maxLen by decide) rfl (fU _ [6]))
           | exact H.rt (by rw [eX,ah (by omega),ah (by omega),ah (by omega),ah (by omega),au (by omega)];exact av.fG (n:=1) (cap:=1) hbz rfl (bL _) (show 1≤maxLen by decide) rfl (fU _ [4]))
           | exact H.rt (by rw [eX,ah (by omega),ah (by omega),ah (by omega),ah (by omega),ah (by omega),au (by omega)];exact av.fG (n:=1) (cap:=1) hbz rfl (bL _) (show 1≤maxLen by decide) rfl (fU _ [5])))
  intro h10 a H
  try have nV:=dF h10
  refine kP H (SR fun _ dw=>Rc rfl (ak dw rfl (Cd rfl ?_ ?_))) <;> clear H dw
  · intro fD a H
    try have qp:=dT fD
    refine bZ (fun _ dR=>?_);refine ig uQ aH [_] [_] H wn rfl rfl rfl rfl rfl (by intro i q h;match i,h with|0,h=>exact h|n+1,h=>simp at h) rfl rfl ?_;clear H;intro b15 a w aae H;refine kH H (ak dR rfl ?_);clear H dR;intro a H;refine lr H results228 rfl ?_
    first
      | exact H.rt (by rw [eX,ah (by omega),ah (by omega),ah (by omega),ah (by omega),ah (by omega),ah (by omega)];exact av.iL rfl (by decide))
      | (obtain ⟨Gz,hmz,hbz,H⟩:=H.eH
         first
           | exact H.rt (by rw [eX,au (by omega)];exact av.fG (n:=1) (cap:=1) hbz rfl (bL _) (show 1≤maxLen by decide) rfl (fU _ [1]))
           | exact H.rt (by rw [eX,ah (by omega),au (by omega)];exact av.fG (n:=2) (cap:=2) hbz rfl (bL _) (show 2≤maxLen by decide) rfl (fU _ [1,2]))
           | exact H.rt (by rw [eX,ah (by omega),ah (by omega),au (by omega)];exact av.fG (n:=1) (cap:=1) hbz rfl (bL _) (show 1≤maxLen by decide) rfl (fU _ [3]))
           | exact H.rt (by rw [eX,ah (by omega),ah (by omega),ah (by omega),au (by omega)];exact av.fG (n:=1) (cap:=1) hbz rfl (bL _) (show 1≤maxLen by decide) rfl (fU _ [6]))
           | exact H.rt (by rw [eX,ah (by omega),ah (by omega),ah (by omega),ah (by omega),au (by omega)];exact av.fG (n:=1) (cap:=1) hbz rfl (bL _) (show 1≤maxLen by decide) rfl (fU _ [4]))
           | exact H.rt (by rw [eX,ah (by omega),ah (by omega),ah (by omega),ah (by omega),ah (by omega),au (by omega)];exact av.fG (n:=1) (cap:=1) hbz rfl (bL _) (show 1≤maxLen by decide) rfl (fU _ [5])))
  intro fD a H
  try have qp:=dF fD
  refine kP H (SR fun _ dW=>Rc rfl (ak dW rfl (Cd rfl ?_ ?_))) <;> clear H dW
  · intro h16 a H
    try have p16:=dT h16
    refine bZ (fun _ dU=>?_);refine ig uQ aH [_] [_] H wn rfl rfl rfl rfl rfl (by intro i q h;match i,h with|0,h=>exact h|n+1,h=>simp at h) rfl rfl ?_;clear H;intro b18 a w OB H;refine kH H (ak dU rfl ?_);clear H dU;intro a H;refine lr H results228 rfl ?_
    first
      | exact H.rt (by rw [eX,ah (by omega),ah (by omega),ah (by omega),ah (by omega),ah (by omega),ah (by omega)];exact av.iL rfl (by decide))
      | (obtain ⟨Gz,hmz,hbz,H⟩:=H.eH
         first
           | exact H.rt (by rw [eX,au (by omega)];exact av.fG (n:=1) (cap:=1) hbz rfl (bL _) (show 1≤maxLen by decide) rfl (fU _ [1]))
           | exact H.rt (by rw [eX,ah (by omega),au (by omega)];exact av.fG (n:=2) (cap:=2) hbz rfl (bL _) (show 2≤maxLen by decide) rfl (fU _ [1,2]))
           | exact H.rt (by rw [eX,ah (by omega),ah (by omega),au (by omega)];exact av.fG (n:=1) (cap:=1) hbz rfl (bL _) (show 1≤maxLen by decide) rfl (fU _ [3]))
           | exact H.rt (by rw [eX,ah (by omega),ah (by omega),ah (by omega),au (by omega)];exact av.fG (n:=1) (cap:=1) hbz rfl (bL _) (show 1≤maxLen by decide) rfl (fU _ [6]))
           | exact H.rt (by rw [eX,ah (by omega),ah (by omega),ah (by omega),ah (by omega),au (by omega)];exact av.fG (n:=1) (cap:=1) hbz rfl (bL _) (show 1≤maxLen by decide) rfl (fU _ [4]))
           | exact H.rt (by rw [eX,ah (by omega),ah (by omega),ah (by omega),ah (by omega),ah (by omega),au (by omega)];exact av.fG (n:=1) (cap:=1) hbz rfl (bL _) (show 1≤maxLen by decide) rfl (fU _ [5])))
  intro h16 a H
  try have p16:=dF h16
  refine kP H (SR fun _ eG=>Rc rfl (ak eG rfl (Cd rfl ?_ ?_))) <;> clear H eG
  · intro h19 a H
    try have sO:=dT h19
    refine bZ (fun _ gu=>?_);refine ig uQ aH [_] [_] H wn rfl rfl rfl rfl rfl (by intro i q h;match i,h with|0,h=>exact h|n+1,h=>simp at h) rfl rfl ?_;clear H;intro b21 a w alg H;refine kH H (ak gu rfl ?_);clear H gu;intro a H;refine lr H results228 rfl ?_
    first
      | exact H.rt (by rw [eX,ah (by omega),ah (by omega),ah (by omega),ah (by omega),ah (by omega),ah (by omega)];exact av.iL rfl (by decide))
      | (obtain ⟨Gz,hmz,hbz,H⟩:=H.eH
         first
           | exact H.rt (by rw [eX,au (by omega)];exact av.fG (n:=1) (cap:=1) hbz rfl (bL _) (show 1≤maxLen by decide) rfl (fU _ [1]))
           | exact H.rt (by rw [eX,ah (by omega),au (by omega)];exact av.fG (n:=2) (cap:=2) hbz rfl (bL _) (show 2≤maxLen by decide) rfl (fU _ [1,2]))
           | exact H.rt (by rw [eX,ah (by omega),ah (by omega),au (by omega)];exact av.fG (n:=1) (cap:=1) hbz rfl (bL _) (show 1≤maxLen by decide) rfl (fU _ [3]))
           | exact H.rt (by rw [eX,ah (by omega),ah (by omega),ah (by omega),au (by omega)];exact av.fG (n:=1) (cap:=1) hbz rfl (bL _) (show 1≤maxLen by decide) rfl (fU _ [6]))
           | exact H.rt (by rw [eX,ah (by omega),ah (by omega),ah (by omega),ah (by omega),au (by omega)];exact av.fG (n:=1) (cap:=1) hbz rfl (bL _) (show 1≤maxLen by decide) rfl (fU _ [4]))
           | exact H.rt (by rw [eX,ah (by omega),ah (by omega),ah (by omega),ah (by omega),ah (by omega),au (by omega)];exact av.fG (n:=1) (cap:=1) hbz rfl (bL _) (show 1≤maxLen by decide) rfl (fU _ [5])))
  intro h19 a H
  try have sO:=dF h19
  refine kP H (SR fun _ fC=>Rc rfl (ak fC rfl (Cd rfl ?_ ?_))) <;> clear H fC
  · intro h22 a H
    try have iZ:=dT h22
    refine bZ (fun _ gH=>?_);refine ig uQ aH [_] [_] H wn rfl rfl rfl rfl rfl (by intro i q h;match i,h with|0,h=>exact h|n+1,h=>simp at h) rfl rfl ?_;clear H;intro b24 a w atH H;refine kH H (ak gH rfl ?_);clear H gH;intro a H;refine lr H results228 rfl ?_
    first
      | exact H.rt (by rw [eX,ah (by omega),ah (by omega),ah (by omega),ah (by omega),ah (by omega),ah (by omega)];exact av.iL rfl (by decide))
      | (obtain ⟨Gz,hmz,hbz,H⟩:=H.eH
         first
           | exact H.rt (by rw [eX,au (by omega)];exact av.fG (n:=1) (cap:=1) hbz rfl (bL _) (show 1≤maxLen by decide) rfl (fU _ [1]))
           | exact H.rt (by rw [eX,ah (by omega),au (by omega)];exact av.fG (n:=2) (cap:=2) hbz rfl (bL _) (show 2≤maxLen by decide) rfl (fU _ [1,2]))
           | exact H.rt (by rw [eX,ah (by omega),ah (by omega),au (by omega)];exact av.fG (n:=1) (cap:=1) hbz rfl (bL _) (show 1≤maxLen by decide) rfl (fU _ [3]))
           | exact H.rt (by rw [eX,ah (by omega),ah (by omega),ah (by omega),au (by omega)];exact av.fG (n:=1) (cap:=1) hbz rfl (bL _) (show 1≤maxLen by decide) rfl (fU _ [6]))
           | exact H.rt (by rw [eX,ah (by omega),ah (by omega),ah (by omega),ah (by omega),au (by omega)];exact av.fG (n:=1) (cap:=1) hbz rfl (bL _) (show 1≤maxLen by decide) rfl (fU _ [4]))
           | exact H.rt (by rw [eX,ah (by omega),ah (by omega),ah (by omega),ah (by omega),ah (by omega),au (by omega)];exact av.fG (n:=1) (cap:=1) hbz rfl (bL _) (show 1≤maxLen by decide) rfl (fU _ [5])))
  intro h22 a H
  try have iZ:=dF h22
  refine kP H (Kc K2 (SR fun _ iC=>ak iC rfl ?_));clear H K2 iC;intro a H;refine lr H results228 rfl ?_
  first
    | exact H.rt (by rw [eX,ah (by omega),ah (by omega),ah (by omega),ah (by omega),ah (by omega),ah (by omega)];exact av.iL rfl (by decide))
    | (obtain ⟨Gz,hmz,hbz,H⟩:=H.eH
       first
         | exact H.rt (by rw [eX,au (by omega)];exact av.fG (n:=1) (cap:=1) hbz rfl (bL _) (show 1≤maxLen by decide) rfl (fU _ [1]))
         | exact H.rt (by rw [eX,ah (by omega),au (by omega)];exact av.fG (n:=2) (cap:=2) hbz rfl (bL _) (show 2≤maxLen by decide) rfl (fU _ [1,2]))
         | exact H.rt (by rw [eX,ah (by omega),ah (by omega),au (by omega)];exact av.fG (n:=1) (cap:=1) hbz rfl (bL _) (show 1≤maxLen by decide) rfl (fU _ [3]))
         | exact H.rt (by rw [eX,ah (by omega),ah (by omega),ah (by omega),au (by omega)];exact av.fG (n:=1) (cap:=1) hbz rfl (bL _) (show 1≤maxLen by decide) rfl (fU _ [6]))
         | exact H.rt (by rw [eX,ah (by omega),ah (by omega),ah (by omega),ah (by omega),au (by omega)];exact av.fG (n:=1) (cap:=1) hbz rfl (bL _) (show 1≤maxLen by decide) rfl (fU _ [4]))
         | exact H.rt (by rw [eX,ah (by omega),ah (by omega),ah (by omega),ah (by omega),ah (by omega),au (by omega)];exact av.fG (n:=1) (cap:=1) hbz rfl (bL _) (show 1≤maxLen by decide) rfl (fU _ [5])))
theorem anx {G:GH} {l:List Int} {A:Option Addr} {n c k:Nat} (hv:av G (.sl 1 (l.map fun k=>[li k])) (.slice A n c)) (hk:k < l.length):∃ b o,A=some ⟨b,o,none⟩∧aI G b (o+k*1)=some (vi l[k]):=by
 obtain ⟨A',c',he,_,_,hg⟩:=hv.slice
 injection he with e1 e2 e3
 subst e1;obtain ⟨b,o,cs,h1,h2,h3,h4⟩:=hg k [li l[k]] (by simp [hk])
 simp only [aR,av] at h4
 obtain ⟨v1,_,rfl,⟨rfl,-⟩,rfl⟩:=h4;exact ⟨b,o,h1,h3 0 _ rfl⟩
theorem anr (G:GH) (w0:World) (hG:Hold G w0) (l:List Int) (t:Int) (v:aj) (hv:av G (.sl 1 (l.map fun k=>[li k])) v) :
  Calls prog 254 #[v,vi t] w0 (bH w0 G fun u G'=>u=vi (nE (l.findIdx? fun x=>decide (t=x)))):=by
 obtain ⟨A,c,rfl,hc1,hc2,-⟩:=hv.slice;have hml:maxLen=9223372036854775807:=rfl;rw [aZ] at *;refine eN [(0,_),(1,_)] func254 rfl ntmps254 rfl rfl hG ?_;intro a H;refine kP H (SR fun _ K1=>ak K1 rfl (SQ fun _ K2=>SR fun _ K3=>Rm rfl (Rl uQ rfl (Rm rfl (Kz K3 (SB ?_))))));clear H K1 K3;intro a H;skip;refine fH (ι:=Nat) (Tc:=[(0,_),(1,_),(7,_)]) (Lc:=[]) (fun gh=>[(8,vi gh)]) (fun gh=>[]) (fun gh=>G) (fun gh=>gh≤l.length∧(l.take gh).findIdx? (fun x=>decide (t=x))=none) (fun gh=>l.length - gh) (0) (by exact (H).sub ⟨rfl,rfl,rfl,rfl,aC⟩) ?_ ?_
 ·exact ⟨gY _,rfl⟩
 clear H;intro k a w hI H;obtain ⟨hk,hno⟩:=hI;dsimp only [lca,bq] at H;refine kP H (SR fun _ K4=>Rc rfl (Kz K4 (SQ fun _ K5=>Cd rfl ?_ ?_))) <;> clear H K4
 ·intro h9 a H
  try have p9:=dT h9
  have hk2:k < l.length:=by omega
  obtain ⟨b,o,rfl,hrow⟩:=anx hv hk2;refine kP H (Kc K5 (SQ fun _ K6=>SB (SR fun _ K7=>Rm rfl (ak K7 rfl (SR fun _ K8=>Rm rfl (Rm rfl (Rm rfl (Ri uQ aH rfl rfl (Rg aH rfl (by assumption) ?_)))))))));clear H K5 K7;intro a H;refine kH H (Rc rfl (Kz K8 (Cd rfl ?_ ?_))) <;> clear H K8
  ·intro h16 a H
   try have p16:=dT h16
   exact kP H (SR fun _ K9=>Rm rfl (ak K9 rfl (LR results254 rfl fun H=>H.rt (by rw [sN hk2 hno (by simpa using p16)];rfl))))
  intro h16 a H
  try have p16:=dF h16
  refine kP H (Kc K6 (SC (Rd rfl (Rm rfl ?_))));clear H K6;intro a H;refine aD ?_;refine dM ((k+1)) (by exact (H).sub ⟨rfl,rfl,rfl,rfl,aC⟩) ?_
  exact ⟨by omega,Cj hk2 hno (by simpa using p16)⟩
 intro h9 a H
 try have p9:=dF h9
 refine eu ?_;refine K2 _ _ ?_;clear K2;exact kP H (SR fun _ aW=>ak aW rfl (LR results254 rfl fun H=>H.rt (by rw [show l.take k=l from iX (by omega)] at hno;rw [hno];rfl)))
theorem agE (G:GH) (w0:World) (hG:Hold G w0) (l:List Int) (t:Int) (v:aj) (hv:av G (.sl 1 (l.map fun k=>[li k])) v) :
  Calls prog 227 #[v,vi t] w0 (bH w0 G fun u G'=>u=.bool (decide (t∈l))):=by
 obtain ⟨A,c,rfl,hc1,hc2,-⟩:=hv.slice;rw [aZ] at *;refine eN [(0,_),(1,_)] func227 rfl ntmps227 rfl rfl hG ?_;intro a H;refine kP H (SR fun _ K1=>ak K1 rfl (SR fun _ K2=>Rm rfl (Rm rfl ?_)));clear H K1;intro a H;refine s_call aiO H wn rfl (anr _ _ H.ro l t _ hv) rfl ?_;clear H;rintro v7 G7 a w rfl AB H;refine kH H (Rc rfl (ak K2 rfl ?_));clear H K2;intro a H;refine lr H results227 rfl ?_
 exact H.rt (by
  congr 1
  cases h:l.findIdx? (fun x=>decide (t=x)) with
  | none =>
   rw [List.findIdx?_eq_none_iff] at h;have:t∉l:=fun hm=>absurd (h t hm) (by simp)
   simp [nE,this]
  | some i =>
   obtain ⟨hi,he,-⟩:=List.findIdx?_eq_some_iff_getElem.1 h
   have:t∈l:=by rw [mM he];exact kN _
   simp [nE,this])
def wz (e k:Int):Bool:=(vk k).2 && decide ((vk k).1.Jc∈eX e)
theorem ZL (G:GH) (w0:World) (hG:Hold G w0) (e k:Int):Calls prog 194 #[vi e,vi k] w0 (bH w0 G fun u G'=>u=.bool (wz e k)):=by
 refine eN [(0,_),(1,_)] func194 rfl ntmps194 rfl rfl hG ?_;intro a H;refine kP H (SR fun _ K1=>ak K1 rfl (SR fun _ K2=>Rm rfl ?_));clear H K1;intro a H;refine s_call Zd H wn rfl (find_spec _ _ H.ro k) rfl ?_;clear H;rintro v9 G9 a w rfl yM H;dsimp only [ku.cells] at H;refine kH H (Rm rfl ?_);clear H;intro a H;(iterate 2 refine lS H wn rfl rfl rfl ?_;clear H;intro a H);refine dB vQ H wn rfl ?_;clear H;intro b5 a w hb5 H;refine aY vQ 0 (vs:=[_,_,_,_,_,_]) _ H wn rfl rfl rfl rfl rfl rfl rfl rfl ?_;clear H;intro w H;dsimp only [List.set,setRow] at H;refine kH H (ak K2 rfl (SQ fun _ K3=>?_));clear H K2;intro a H
 by_cases c0:(vk k).2=true
 ·skip
  have qJ:CQ (fun (dD:Nat) (v:aj) (G:GH)=>match dD with|0=>v=.bool (vk k).2|1=>v=.bool (decide ((vk k).2=true))|2=>v=vi e|3=>(vk k).2=true→av G (.sl 1 ((eX e).map fun k=>[li k])) v|4=>v=(aK b5 1)|5=>v=vi (vk k).1.Jc|6=>v=.bool (decide ((vk k).1.Jc∈eX e))|7=>v=.bool (wz e k)|_=>True):=by intro dD v G G' hm h;(iterate 9 (rcases dD with _|dD;(first|exact h|exact fun hf=>(h hf).mono hm)));exact trivial
  refine BO (hmx) [[],[0],[0,1],[0,1,2],[0,1],[0,1,4],(ra 0 6),(ra 0 7),(ra 0 8)] [8] (by kernel_rfl) (by kernel_rfl) _ qJ H ?_ ?_
  ·clear H;refine aF ?_ ?_ ?_ ?_ (aF ?_ ?_ ?_ ?_ (bM (bQ rfl) dz))
   ·refine eB [] rfl trivial (by kernel_rfl) qJ rfl rfl ?_;intro bE a w G1 hG HT H fin;exact kH H (Rm rfl fun _ H=>fin H iJ rfl)
   ·refine eB [(0,12,_)] rfl ⟨fun _ _ h=>h,aC⟩ (by kernel_rfl) qJ rfl rfl ?_;intro bE a w G1 hG HT H fin;refine kH H (Rm rfl ?_);clear H;intro a H;exact fin H iJ (by simp)
   ·refine eB [(1,13,_)] rfl ⟨fun _ _ h=>h,aC⟩ (by kernel_rfl) qJ rfl rfl ?_;intro bE a w G1 hG HT H fin;exact kH H (YM (aG c0) rfl fun _ H=>fin H iJ rfl)
   ·refine eB [(2,14,_),(1,13,_)] rfl ⟨fun _ _ h=>h,fun _ _ h=>h,aC⟩ (by kernel_rfl) qJ rfl rfl ?_;intro bE a w G1 hG HT H fin;refine s_call aiC H (wg H rfl rfl (aG c0)) rfl (aky _ _ H.ro e) rfl ?_;clear H;rintro v15 CO a w EM Dh H;exact fin H Dh (by first|exact fun _=>EM|rfl)
   ·refine eB [(1,13,_)] rfl ⟨fun _ _ h=>h,aC⟩ (by kernel_rfl) qJ rfl rfl ?_;intro bE a w G1 hG HT H fin;exact kH H (YF ajS (aG c0) rfl fun _ H=>fin H iJ rfl)
   ·refine eB [(4,16,_),(1,13,_)] rfl ⟨fun _ _ h=>h,fun _ _ h=>h,aC⟩ (by kernel_rfl) qJ rfl rfl ?_;intro bE a w G1 hG HT H fin;exact kH H (YO aH 0 (aG c0) rfl fun _ H=>fin H iJ rfl)
   ·intro bE a w G1 _ aQ hc hG HT hv;have H:=HT;clear aQ;obtain ⟨u15,ana,EM⟩:=hv 3 15 (hc 3 (by decide)) rfl;(try dsimp only at EM);have H:=H.jV ana;have H:=H.aM (hv 5 17 (hc 5 (by decide)) rfl) rfl;have H:=H.aM (hv 1 13 (hc 1 (by decide)) rfl) rfl;have Hb:=H.full;have H:=Hb;clear hc;refine s_call aiB H (wg H rfl rfl (aG c0)) rfl (agE _ _ H.ro _ _ _ (EM c0)) rfl ?_;clear H;rintro v18 QF a w rfl akE H;refine aD ⟨rfl,?_⟩;exact fI (by kernel_rfl) qJ rfl rfl HT Hb hG hv akE (rfl) H
   refine eB [(1,13,_),(6,18,_)] rfl ⟨fun _ _ h=>h,fun _ _ h=>h,aC⟩ (by kernel_rfl) qJ rfl rfl ?_;intro bE a w G1 hG HT H fin;refine kH H (Pt (aG c0) rfl ?_);clear H;intro a H;exact fin H iJ (by unfold wz;simp_all)
  clear H;intro a w G Di H hv;have H:=H.aM (hv 7 19 rfl rfl) rfl;clear hv;refine kH H (Ra rfl ?_);clear H;intro a H;refine aD ⟨rfl,?_⟩;refine K3 _ _ ?_;clear K3;refine lr H results194 rfl ?_;exact H.rt rfl
 skip;refine dI hmx [[],[0],[0,1],[0,1,2],[0,1],[0,1,4],(ra 0 6),(ra 0 7),(ra 0 8)] [8] (by kernel_rfl) [_,.bool (decide ((vk k).2=true)),undef,undef,undef,undef,undef,.bool (wz e k)] H (aF (Z0 rfl (Rm rfl)) ?_ (aX 1 (aU c0) rfl rfl) ?_ (aF (aX 1 (aU c0) rfl rfl) (aX 1 (aU c0) rfl rfl) (aX 1 (aU c0) rfl rfl) ?_ (bM (bQ rfl) dz))) ?_
 ·refine eP 0 12 rfl rfl fun _ a w G1 hG HT H fin=>?_;refine kH H (Rm rfl ?_);clear H;intro a H;exact fin H iJ (by show _=_;simp)
 ·intro bE a w G1 _ aQ hc hG HT hv;have H:=HT;clear aQ;have H:=H.aM (hv 2 14 (hc 2 (by decide)) rfl) rfl;have H:=H.aM (hv 1 13 (hc 1 (by decide)) rfl) rfl;have Hb:=H.full;have H:=Hb;clear hc;refine kH H (Ks (aU c0) rfl ?_);clear H;intro a H;refine aD ⟨rfl,?_⟩;exact fI (by kernel_rfl) (fun _ _ _ _ _ h=>h) rfl rfl HT Hb hG hv (fun _ _ h=>h) (by first|exact fun _=>EM|rfl) H
 ·refine dK 1 13 6 18 rfl rfl fun _ a w G1 hG HT H fin=>?_;refine kH H (Pf (aU c0) rfl ?_);clear H;intro a H;exact fin H iJ (by show _=_;unfold wz;simp_all)
 clear H;intro a w G Di H hv;have H:=H.aM (hv 7 19 rfl rfl) rfl;clear hv;refine kH H (Ra rfl ?_);clear H;intro a H;refine aD ⟨rfl,?_⟩;refine K3 _ _ ?_;clear K3;refine lr H results194 rfl ?_;exact H.rt rfl
def uf (k v:Int):Int:=if (vk k).2=false then 4 else if v < (vk k).1.low∨(vk k).1.high < v then 5 else 0
theorem Ry (G:GH) (w0:World) (hG:Hold G w0) (k x:Int):Calls prog 195 #[vi k,vi x] w0 (bH w0 G fun u G'=>u=vi (uf k x)):=by
 refine eN [(0,_),(1,_)] func195 rfl ntmps195 rfl rfl hG ?_;intro a H;refine kP H (SR fun _ K1=>ak K1 rfl (SR fun _ K2=>Rm rfl ?_));clear H K1;intro a H;refine s_call Zd H wn rfl (find_spec _ _ H.ro k) rfl ?_;clear H;rintro v9 G9 a w rfl yM H;dsimp only [ku.cells] at H;refine kH H (Rm rfl ?_);clear H;intro a H;(iterate 2 refine lS H wn rfl rfl rfl ?_;clear H;intro a H);refine dB vQ H wn rfl ?_;clear H;intro b5 a w hb5 H;refine aY vQ 0 (vs:=[_,_,_,_,_,_]) _ H wn rfl rfl rfl rfl rfl rfl rfl rfl ?_;clear H;intro w H;dsimp only [List.set,setRow] at H;refine kH H (ak K2 rfl (SQ fun _ K3=>SB (SR fun _ K4=>Rm rfl (Rn rfl (ak K4 rfl (Cd rfl ?_ ?_)))))) <;> clear H K2 K4
 ·intro h12 a H
  try have rO:=dT h12
  exact kP H (SR fun _ K5=>ak K5 rfl (LR results195 rfl fun H=>H.rt (by unfold uf;simp_all)))
 intro h12 a H
 try have rO:=dF h12
 refine kP H (SR fun _ K6=>Rm rfl (bG ajT aH 0 rfl rfl (Rc rfl (Rm rfl (Sp 20 rfl ?_ ?_))))) <;> clear H
 ·intro h20 a H
  try have Hz:=dT h20
  exact kH H (aP h20 rfl (aP h20 rfl (Pt h20 rfl (ak K6 rfl (Ct rfl rfl (SR fun _ K7=>ak K7 rfl (LR results195 rfl fun H=>H.rt (by unfold uf;simp_all))))))))
 intro h20 a H
 try have Hz:=dF h20
 refine kH H (YM h20 rfl (YF ajU h20 rfl (YO aH 0 h20 rfl (YC h20 rfl (Pf h20 rfl (ak K6 rfl (Cd rfl ?_ ?_))))))) <;> clear H K6
 ·intro iD a H
  try have pR:=dT iD
  exact kP H (SR fun _ K8=>ak K8 rfl (LR results195 rfl fun H=>H.rt (by unfold uf;simp_all)))
 intro iD a H
 try have pR:=dF iD
 exact kP H (Kc K3 (SR fun _ K9=>ak K9 rfl (LR results195 rfl fun H=>H.rt (by unfold uf;simp_all))))
theorem Y8:∀ args w,(callFunc 194 args).run prog w=.ok (.enter 194 args) w:=enters func194 rfl (by kernel_rfl)
theorem Ol:dN prog 187 1 1:=⟨by kernel_rfl⟩
theorem R9:∀ args w,(callFunc 195 args).run prog w=.ok (.enter 195 args) w:=enters func195 rfl (by kernel_rfl)
theorem aiP:∀ args w,(callFunc 260 args).run prog w=.ok (.enter 260 args) w:=enters func260 rfl (by kernel_rfl)
theorem Sd:∀ args w,(callFunc 240 args).run prog w=.ok (.enter 240 args) w:=enters func240 rfl (by kernel_rfl)
def EU (q:Option Int) (k:Int):Bool:=match q with|some j=>decide (k < j)|none=>false
def zw (e:Int):Option Int→List aO→Int
 | _,[]=>0
 | q,p :: r=>if wz e p.key=false then 4 else if q=some p.key then 7 else if EU q p.key=true then 6 else if uf p.key p.value=0 then zw e (some p.key) r else uf p.key p.value
def Ba (l:List aO) (k:Nat):Option Int:=if k=0 then none else l[k - 1]?.map aO.key
def iw (e:Int) (l:List aO):Int:=if e < 1∨10 < e then 3 else zw e none l
theorem afV {e:Int} {l:List aO} {k:Nat} (h:k < l.length):zw e (Ba l k) (l.drop k)=if wz e l[k].key=false then 4 else if Ba l k=some l[k].key then 7 else if EU (Ba l k) l[k].key=true then 6 else if uf l[k].key l[k].value=0 then zw e (Ba l (k+1)) (l.drop (k+1)) else uf l[k].key l[k].value:=by
 rw [oh h,zw]
 have:Ba l (k+1)=some l[k].key:=by rw [Ba,ah (by omega),Nat.add_sub_cancel,eD h];rfl
 rw [this]
theorem PL {l:List aO} {k:Nat} (h:k=0):Ba l k=none:=au h
theorem acy (G:GH) (w0:World) (hG:Hold G w0) (e:Int) (l:List aO) (v:aj) (hv:av G (.sl 2 (l.map aO.dat)) v) :
  Calls prog 129 #[vi e,v] w0 (bH w0 G fun u G'=>u=vi (iw e l)):=by
 obtain ⟨A,c,rfl,hc1,hc2,-⟩:=hv.slice;have hml:maxLen=9223372036854775807:=rfl;rw [aZ] at *;refine eN [(0,_),(1,_)] func129 rfl ntmps129 rfl rfl hG ?_;intro a H;refine kP H (SR fun _ K1=>ak K1 rfl (SQ fun _ K2=>SR fun _ K3=>Rm rfl (Rc rfl (Rm rfl (Sp 10 rfl ?_ ?_))))) <;> clear H K1
 ·intro h10 a H
  try have nV:=dT h10
  refine kH H (aP h10 rfl (Pt h10 rfl (Kz K3 (Ct rfl rfl (SR fun _ K4=>ak K4 rfl ?_)))));clear H K3 K4;intro a H;refine lr H results129 rfl ?_
  first
   | exact H.rt (aB vi (by rw [ah (by simpa using p61)] at heq;rw [iw,ah (by omega)];exact heq))
   | exact H.rt (aB vi (by rw [au (by simpa using h21)] at heq;rw [iw,ah (by omega)];exact heq))
   | exact H.rt (aB vi (by rw [iw,ah (by omega)];exact heq))
   | exact H.rt (aB vi (by rw [iw,ah (by omega),← heq,show l.drop k=[] from jm (by omega)];rfl))
   | exact H.rt (aB vi (by rw [iw,au (by omega)]))
 intro h10 a H
 try have nV:=dF h10
 refine kH H (YM h10 rfl (YC h10 rfl (Pf h10 rfl (Kz K3 (Cd rfl ?_ ?_))))) <;> clear H K3
 ·intro fD a H
  try have qp:=dT fD
  refine kP H (SR fun _ K5=>ak K5 rfl ?_);clear H K5;intro a H;refine lr H results129 rfl ?_
  first
   | exact H.rt (aB vi (by rw [ah (by simpa using p61)] at heq;rw [iw,ah (by omega)];exact heq))
   | exact H.rt (aB vi (by rw [au (by simpa using h21)] at heq;rw [iw,ah (by omega)];exact heq))
   | exact H.rt (aB vi (by rw [iw,ah (by omega)];exact heq))
   | exact H.rt (aB vi (by rw [iw,ah (by omega),← heq,show l.drop k=[] from jm (by omega)];rfl))
   | exact H.rt (aB vi (by rw [iw,au (by omega)]))
 intro fD a H
 try have qp:=dF fD
 refine kP H (Kc K2 (SQ fun _ K6=>SR fun _ K7=>Rm rfl (Rl gG rfl (Rm rfl (Kz K7 (SB ?_))))));clear H K2 K7;intro a H;skip;refine fH (ι:=Nat × GH) (Tc:=[(0,_),(1,_),(14,_),(15,_)]) (Lc:=[]) (fun gh=>[(16,vi gh.1)]) (fun gh=>[]) (fun gh=>gh.2) (fun gh=>gh.1≤l.length∧zw e (Ba l gh.1) (l.drop gh.1)=zw e none l∧(∀ b o,G b=some o→gh.2 b=some o)) (fun gh=>l.length - gh.1) ((0,G)) (by exact (H).sub ⟨rfl,rfl,rfl,rfl,rfl,aC⟩) ?_ ?_
 ·exact ⟨gY _,rfl,fun _ _ h=>h⟩
 clear H;rintro ⟨k,g⟩ a w hI H;dsimp only at hI H;obtain ⟨hk,heq,hgm⟩:=hI;dsimp only [lca,bq] at H;refine kP H (SR fun _ K8=>Rc rfl (Kz K8 (SQ fun _ K9=>Cd rfl ?_ ?_))) <;> clear H K8
 ·intro eY a H
  try have nH:=dT eY
  have hk2:k < l.length:=by omega
  have Ci:=hv.mono hgm;obtain ⟨b,o,rfl,hrow⟩:=HV Ci hk2
  obtain ⟨pk,hpk⟩:∃ pk,0 < k→aI g b (o+(k - 1)*2+0)=some (vi pk)∧Ba l k=some pk:=by
   by_cases h0:0 < k
   ·obtain ⟨b',o',he,hr'⟩:=HV Ci (show k - 1 < l.length by omega)
    injection he with he
    injection he with e1 e2 e3
    subst e1;subst e2;exact ⟨_,fun _=>⟨hr' 0 _ rfl,by rw [Ba,ah (by omega),eD (by omega)];rfl⟩⟩
   exact ⟨0,fun h=>absurd h h0⟩
  rw [afV hk2] at heq;have aua:=heq;refine kP H (Kc K9 (SQ fun _ aW=>SB (SR fun _ bO=>Rm rfl (Ri gG gT rfl rfl ?_))));clear H K9;intro a H;refine bB gT (cs:=[_,_]) H wn rfl rfl (fun j v hj=>H.hp.aI (hrow j v hj)) rfl ?_;clear H;intro a H;refine dB gT H wn rfl ?_;clear H;intro b6 a w hb6 H;refine kH H (Ra rfl ?_);clear H;intro a H;refine aY gT 0 (vs:=[_,_]) _ H wn rfl rfl rfl rfl rfl rfl rfl rfl ?_;clear H;intro w H;dsimp only [List.set,setRow] at H;refine bO _ _ ?_;clear bO;refine tZ (ι:=GH) (Tc:=[(0,_),(1,_),(6,_),(14,_),(15,_),(16,_)]) (Lc:=[(_,_)]) (fun gh=>[]) (fun gh=>[]) (fun gh=>gh) (fun gh=>(if uf l[k].key l[k].value=0 then zw e (Ba l (k+1)) (l.drop (k+1)) else uf l[k].key l[k].value)=zw e none l∧(∀ b o,g b=some o→gh b=some o)) (by exact (H).sub ⟨rfl,rfl,rfl,rfl,rfl,rfl,aC⟩) ?_ ?_
  ·skip;refine kP H (SB (SR fun _ bW=>Rm rfl (bG xq aH 0 rfl rfl ?_)));clear H;intro a H;refine s_call Y8 H wn rfl (ZL _ _ H.ro e l[k].key) rfl ?_;clear H;rintro v25 Nl a w rfl Aw H;replace hrow:=fun j u hj=>aJ Aw (hrow j u hj);refine kH H (Rn rfl (ak bW rfl (Cd rfl ?_ ?_))) <;> clear H bW
   ·intro h21 a H
    try have DK:=dT h21
    refine kP H (SR fun _ cB=>ak cB rfl ?_);clear H cB;intro a H;refine lr H results129 rfl ?_
    first
     | exact H.rt (aB vi (by rw [ah (by simpa using p61)] at heq;rw [iw,ah (by omega)];exact heq))
     | exact H.rt (aB vi (by rw [au (by simpa using h21)] at heq;rw [iw,ah (by omega)];exact heq))
     | exact H.rt (aB vi (by rw [iw,ah (by omega)];exact heq))
     | exact H.rt (aB vi (by rw [iw,ah (by omega),← heq,show l.drop k=[] from jm (by omega)];rfl))
     | exact H.rt (aB vi (by rw [iw,au (by omega)]))
   intro h21 a H
   try have DK:=dF h21
   rw [ah (by simpa using h21)] at heq;refine bN (fun _ dw=>?_)
   by_cases c0:0 < (k:Int)
   ·skip
    by_cases c1:l[k].key=pk
    ·skip;refine dI hmx [[],[0],[0,1],[0,1,2],(ra 0 4),[0,1,2],[0,1,2],[0,1,2,6],[0,1,2,5,6,7],[0,1,2,5,6,7,8],[0,1,2,5,6,7,8,9],(ra 0 11),(ra 0 12),(ra 0 13)] [13] (by kernel_rfl) [_,_,_,_,vi l[k].key,_,_,vi ((k - 1:Nat):Int),_,_,_,_,_] H (aF (Z0 rfl (Rm rfl)) (Z1 0 28 rfl (Rc rfl)) (Z1 1 29 rfl (Rm rfl)) (Z1 2 30 rfl (YF xq (aG c0) rfl)) (aF (Z2 3 31 2 30 rfl (YO aH 0 (aG c0) rfl)) (Z1 2 30 rfl (YM (aG c0) rfl)) (Z1 2 30 rfl (YM (aG c0) rfl)) ?_ (aF (Z3 5 33 7 35 2 30 rfl (YI gG gT (aG c0) rfl rfl)) (Z2 8 36 2 30 rfl (YF xq (aG c0) rfl)) (X2 9 37 2 30 rfl fun hG=>YR aH (aG c0) rfl (aJ hG (aJ Aw (hpk (by omega)).1))) (Z3 4 32 10 38 2 30 rfl (YC (aG c0) rfl)) (bM (Z2 2 30 11 39 rfl (Pt (aG c0) rfl)) (bM (bQ rfl) dz))))) ?_
     ·refine dK 6 34 2 30 rfl rfl fun _ a w G1 hG HT H fin=>?_;refine nW _ H (wg H rfl rfl (aG c0)) rfl rfl rfl (by omega) (by omega) rfl ?_;clear H;intro a H;exact fin H iJ (by show _=_;first|rfl|exact aB vi (by omega))
     clear H;intro a w G ql H hv;have H:=H.aM (hv 12 40 rfl rfl) rfl;clear hv;refine kH H (Ra rfl ?_);clear H;intro a H;refine aD ⟨rfl,?_⟩;refine dw _ _ ?_;clear dw;refine BN H rfl (aG c1) ?_;refine bN (fun _ dR=>?_);rw [au (by rw [(hpk (by omega)).2,c1])] at heq;refine kP H (SC (bC dR rfl ?_));clear H dR;intro a H;refine lr H results129 rfl ?_
     first
      | exact H.rt (aB vi (by rw [ah (by simpa using p61)] at heq;rw [iw,ah (by omega)];exact heq))
      | exact H.rt (aB vi (by rw [au (by simpa using h21)] at heq;rw [iw,ah (by omega)];exact heq))
      | exact H.rt (aB vi (by rw [iw,ah (by omega)];exact heq))
      | exact H.rt (aB vi (by rw [iw,ah (by omega),← heq,show l.drop k=[] from jm (by omega)];rfl))
      | exact H.rt (aB vi (by rw [iw,au (by omega)]))
    skip;refine dI hmx [[],[0],[0,1],[0,1,2],(ra 0 4),[0,1,2],[0,1,2],[0,1,2,6],[0,1,2,5,6,7],[0,1,2,5,6,7,8],[0,1,2,5,6,7,8,9],(ra 0 11),(ra 0 12),(ra 0 13)] [13] (by kernel_rfl) [_,_,_,_,vi l[k].key,_,_,vi ((k - 1:Nat):Int),_,_,_,_,_] H (aF (Z0 rfl (Rm rfl)) (Z1 0 28 rfl (Rc rfl)) (Z1 1 29 rfl (Rm rfl)) (Z1 2 30 rfl (YF xq (aG c0) rfl)) (aF (Z2 3 31 2 30 rfl (YO aH 0 (aG c0) rfl)) (Z1 2 30 rfl (YM (aG c0) rfl)) (Z1 2 30 rfl (YM (aG c0) rfl)) ?_ (aF (Z3 5 33 7 35 2 30 rfl (YI gG gT (aG c0) rfl rfl)) (Z2 8 36 2 30 rfl (YF xq (aG c0) rfl)) (X2 9 37 2 30 rfl fun hG=>YR aH (aG c0) rfl (aJ hG (aJ Aw (hpk (by omega)).1))) (Z3 4 32 10 38 2 30 rfl (YC (aG c0) rfl)) (bM (Z2 2 30 11 39 rfl (Pt (aG c0) rfl)) (bM (bQ rfl) dz))))) ?_
    ·refine dK 6 34 2 30 rfl rfl fun _ a w G1 hG HT H fin=>?_;refine nW _ H (wg H rfl rfl (aG c0)) rfl rfl rfl (by omega) (by omega) rfl ?_;clear H;intro a H;exact fin H iJ (by show _=_;first|rfl|exact aB vi (by omega))
    clear H;intro a w G ql H hv;have H:=H.aM (hv 12 40 rfl rfl) rfl;clear hv;refine kH H (Ra rfl ?_);clear H;intro a H;refine aD ⟨rfl,?_⟩;refine dw _ _ ?_;clear dw;refine rY H rfl (aU c1) ?_;refine bN (fun _ dW=>?_)
    have q1:¬ (0 < (k:Int)∧l[k].key=pk):=by first|exact fun h=>c1 h.2|exact fun h=>c0 h.1
    rw [ah (fun h=>q1 (by
     by_cases h0:0 < k
     ·rw [(hpk h0).2] at h
      injection h with h
      exact ⟨by omega,h.symm⟩
     rw [PL (by omega)] at h
     cases h))] at heq
    by_cases c3:l[k].key < pk
    ·skip;refine dI hmx [[],[0],[0,1],[0,1,2],(ra 0 4),[0,1,2],[0,1,2],[0,1,2,6],[0,1,2,5,6,7],[0,1,2,5,6,7,8],[0,1,2,5,6,7,8,9],(ra 0 11),(ra 0 12),(ra 0 13)] [13] (by kernel_rfl) [_,_,_,_,vi l[k].key,_,_,vi ((k - 1:Nat):Int),_,_,vi pk,_,_] H (aF (Z0 rfl (Rm rfl)) (Z1 0 42 rfl (Rc rfl)) (Z1 1 43 rfl (Rm rfl)) (Z1 2 44 rfl (YF xq (aG c0) rfl)) (aF (Z2 3 45 2 44 rfl (YO aH 0 (aG c0) rfl)) (Z1 2 44 rfl (YM (aG c0) rfl)) (Z1 2 44 rfl (YM (aG c0) rfl)) ?_ (aF (Z3 5 47 7 49 2 44 rfl (YI gG gT (aG c0) rfl rfl)) (Z2 8 50 2 44 rfl (YF xq (aG c0) rfl)) ?_ (Z3 4 46 10 52 2 44 rfl (YC (aG c0) rfl)) (bM (Z2 2 44 11 53 rfl (Pt (aG c0) rfl)) (bM (bQ rfl) dz))))) ?_
     ·refine dK 6 48 2 44 rfl rfl fun _ a w G1 hG HT H fin=>?_;refine nW _ H (wg H rfl rfl (aG c0)) rfl rfl rfl (by omega) (by omega) rfl ?_;clear H;intro a H;exact fin H iJ (by show _=_;first|rfl|exact aB vi (by omega))
     ·refine dK 9 51 2 44 rfl rfl fun _ a w G1 hG HT H fin=>?_;refine rP aH H (wg H rfl rfl (aG c0)) rfl (H.hp.aI (aJ hG (aJ ql (aJ Aw (hpk (by omega)).1)))) rfl ?_;clear H;intro a H;exact fin H iJ rfl
     clear H;intro a w G ru H hv;have H:=H.aM (hv 12 54 rfl rfl) rfl;clear hv;refine kH H (Ra rfl ?_);clear H;intro a H;refine aD ⟨rfl,?_⟩;refine dW _ _ ?_;clear dW;refine BN H rfl (aG c3) ?_;refine bN (fun _ dU=>?_);rw [au (by rw [(hpk (by omega)).2];exact aG c3)] at heq;refine kP H (SC (bC dU rfl ?_));clear H dU;intro a H;refine lr H results129 rfl ?_
     first
      | exact H.rt (aB vi (by rw [ah (by simpa using p61)] at heq;rw [iw,ah (by omega)];exact heq))
      | exact H.rt (aB vi (by rw [au (by simpa using h21)] at heq;rw [iw,ah (by omega)];exact heq))
      | exact H.rt (aB vi (by rw [iw,ah (by omega)];exact heq))
      | exact H.rt (aB vi (by rw [iw,ah (by omega),← heq,show l.drop k=[] from jm (by omega)];rfl))
      | exact H.rt (aB vi (by rw [iw,au (by omega)]))
    skip;refine dI hmx [[],[0],[0,1],[0,1,2],(ra 0 4),[0,1,2],[0,1,2],[0,1,2,6],[0,1,2,5,6,7],[0,1,2,5,6,7,8],[0,1,2,5,6,7,8,9],(ra 0 11),(ra 0 12),(ra 0 13)] [13] (by kernel_rfl) [_,_,_,_,vi l[k].key,_,_,vi ((k - 1:Nat):Int),_,_,vi pk,_,_] H (aF (Z0 rfl (Rm rfl)) (Z1 0 42 rfl (Rc rfl)) (Z1 1 43 rfl (Rm rfl)) (Z1 2 44 rfl (YF xq (aG c0) rfl)) (aF (Z2 3 45 2 44 rfl (YO aH 0 (aG c0) rfl)) (Z1 2 44 rfl (YM (aG c0) rfl)) (Z1 2 44 rfl (YM (aG c0) rfl)) ?_ (aF (Z3 5 47 7 49 2 44 rfl (YI gG gT (aG c0) rfl rfl)) (Z2 8 50 2 44 rfl (YF xq (aG c0) rfl)) ?_ (Z3 4 46 10 52 2 44 rfl (YC (aG c0) rfl)) (bM (Z2 2 44 11 53 rfl (Pt (aG c0) rfl)) (bM (bQ rfl) dz))))) ?_
    ·refine dK 6 48 2 44 rfl rfl fun _ a w G1 hG HT H fin=>?_;refine nW _ H (wg H rfl rfl (aG c0)) rfl rfl rfl (by omega) (by omega) rfl ?_;clear H;intro a H;exact fin H iJ (by show _=_;first|rfl|exact aB vi (by omega))
    ·refine dK 9 51 2 44 rfl rfl fun _ a w G1 hG HT H fin=>?_;refine rP aH H (wg H rfl rfl (aG c0)) rfl (H.hp.aI (aJ hG (aJ ql (aJ Aw (hpk (by omega)).1)))) rfl ?_;clear H;intro a H;exact fin H iJ rfl
    clear H;intro a w G ru H hv;have H:=H.aM (hv 12 54 rfl rfl) rfl;clear hv;refine kH H (Ra rfl ?_);clear H;intro a H;refine aD ⟨rfl,?_⟩;refine dW _ _ ?_;clear dW;refine rY H rfl (aU c3) ?_;refine fZ ?_;refine ⟨_,by exact (H).sub ⟨rfl,rfl,rfl,rfl,rfl,rfl,aC⟩,?_⟩
    have q2:¬ (0 < (k:Int)∧l[k].key < pk):=by first|exact fun h=>c3 h.2|exact fun h=>c0 h.1
    rw [ah (fun h=>q2 (by
     by_cases h0:0 < k
     ·rw [(hpk h0).2] at h;exact ⟨by omega,mM h⟩
     rw [PL (by omega)] at h
     cases h))] at heq
    exact ⟨heq,fun b o h=>ru b o (ql b o (Aw b o h))⟩
   skip;refine dI hmx [[],[0],[0,1],[0,1,2],(ra 0 4),[0,1,2],[0,1,2],[0,1,2,6],[0,1,2,5,6,7],[0,1,2,5,6,7,8],[0,1,2,5,6,7,8,9],(ra 0 11),(ra 0 12),(ra 0 13)] [13] (by kernel_rfl) [_,_,_,undef,undef,undef,undef,undef,undef,undef,undef,undef,_] H (aF (Z0 rfl (Rm rfl)) (Z1 0 28 rfl (Rc rfl)) (Z1 1 29 rfl (Rm rfl)) (aX 2 (aU c0) rfl rfl) (aF (aX 2 (aU c0) rfl rfl) (aX 2 (aU c0) rfl rfl) (aX 2 (aU c0) rfl rfl) (aX 2 (aU c0) rfl rfl) (aF (aX 2 (aU c0) rfl rfl) (aX 2 (aU c0) rfl rfl) (aX 2 (aU c0) rfl rfl) (aX 2 (aU c0) rfl rfl) (bM (Z2 2 30 11 39 rfl (Pf (aU c0) rfl)) (bM (bQ rfl) dz))))) ?_
   clear H;intro a w G ql H hv;have H:=H.aM (hv 12 40 rfl rfl) rfl;clear hv;refine kH H (Ra rfl ?_);clear H;intro a H;refine aD ⟨rfl,?_⟩;refine dw _ _ ?_;clear dw;refine rY H rfl rfl ?_;refine bN (fun _ eG=>?_)
   have q1:¬ (0 < (k:Int)∧l[k].key=pk):=by first|exact fun h=>c1 h.2|exact fun h=>c0 h.1
   rw [ah (fun h=>q1 (by
    by_cases h0:0 < k
    ·rw [(hpk h0).2] at h
     injection h with h
     exact ⟨by omega,h.symm⟩
    rw [PL (by omega)] at h
    cases h))] at heq
   refine dI hmx [[],[0],[0,1],[0,1,2],(ra 0 4),[0,1,2],[0,1,2],[0,1,2,6],[0,1,2,5,6,7],[0,1,2,5,6,7,8],[0,1,2,5,6,7,8,9],(ra 0 11),(ra 0 12),(ra 0 13)] [13] (by kernel_rfl) [_,_,_,undef,undef,undef,undef,undef,undef,undef,undef,undef,_] H (aF (Z0 rfl (Rm rfl)) (Z1 0 42 rfl (Rc rfl)) (Z1 1 43 rfl (Rm rfl)) (aX 2 (aU c0) rfl rfl) (aF (aX 2 (aU c0) rfl rfl) (aX 2 (aU c0) rfl rfl) (aX 2 (aU c0) rfl rfl) (aX 2 (aU c0) rfl rfl) (aF (aX 2 (aU c0) rfl rfl) (aX 2 (aU c0) rfl rfl) (aX 2 (aU c0) rfl rfl) (aX 2 (aU c0) rfl rfl) (bM (Z2 2 44 11 53 rfl (Pf (aU c0) rfl)) (bM (bQ rfl) dz))))) ?_
   clear H;intro a w G ru H hv;have H:=H.aM (hv 12 54 rfl rfl) rfl;clear hv;refine kH H (Ra rfl ?_);clear H;intro a H;refine aD ⟨rfl,?_⟩;refine eG _ _ ?_;clear eG;refine rY H rfl rfl ?_;refine fZ ?_;refine ⟨_,by exact (H).sub ⟨rfl,rfl,rfl,rfl,rfl,rfl,aC⟩,?_⟩
   have q2:¬ (0 < (k:Int)∧l[k].key < pk):=by first|exact fun h=>c3 h.2|exact fun h=>c0 h.1
   rw [ah (fun h=>q2 (by
    by_cases h0:0 < k
    ·rw [(hpk h0).2] at h;exact ⟨by omega,mM h⟩
    rw [PL (by omega)] at h
    cases h))] at heq
   exact ⟨heq,fun b o h=>ru b o (ql b o (Aw b o h))⟩
  clear H;intro g2 a w hI H;obtain ⟨heq,jY⟩:=hI;replace hrow:=fun j u hj=>aJ jY (hrow j u hj);dsimp only [lca,bq] at H;refine kP H (SR fun _ gu=>bG xq aH 0 rfl rfl (bG Ol aH 0 rfl rfl ?_));clear H;intro a H;refine s_call R9 H wn rfl (Ry _ _ H.ro l[k].key l[k].value) rfl ?_;clear H;rintro v59 G59 a w rfl ame H;refine kH H (ak gu rfl (SR fun _ fC=>Rm rfl (Rc rfl (Kz fC (Cd rfl ?_ ?_))))) <;> clear H gu fC
  ·intro F8 a H
   try have p61:=dT F8
   refine kP H (SR fun _ gH=>Rm rfl (ak gH rfl ?_));clear H gH;intro a H;refine lr H results129 rfl ?_
   first
    | exact H.rt (aB vi (by rw [ah (by simpa using p61)] at heq;rw [iw,ah (by omega)];exact heq))
    | exact H.rt (aB vi (by rw [au (by simpa using h21)] at heq;rw [iw,ah (by omega)];exact heq))
    | exact H.rt (aB vi (by rw [iw,ah (by omega)];exact heq))
    | exact H.rt (aB vi (by rw [iw,ah (by omega),← heq,show l.drop k=[] from jm (by omega)];rfl))
    | exact H.rt (aB vi (by rw [iw,au (by omega)]))
  intro F8 a H
  try have p61:=dF F8
  refine kP H (Kc aW (SC (Rd rfl (Rm rfl ?_))));clear H aW;intro a H;refine aD ?_;refine dM ((k+1,G59)) (by exact (H.dG (Pl:=[_]) (cZ:=[]) [] (by decide) rfl).sub ⟨rfl,rfl,rfl,rfl,rfl,aC⟩) ?_
  (try dsimp only);exact ⟨by omega,by rw [au (by simpa using p61)] at heq;exact heq,fun b o h=>ame b o (jY b o (hgm b o h))⟩
 intro eY a H
 try have nH:=dF eY
 refine eu ?_;refine K6 _ _ ?_;clear K6;refine kP H (SR fun _ iC=>ak iC rfl ?_);clear H iC;intro a H;refine lr H results129 rfl ?_
 first
  | exact H.rt (aB vi (by rw [ah (by simpa using p61)] at heq;rw [iw,ah (by omega)];exact heq))
  | exact H.rt (aB vi (by rw [au (by simpa using h21)] at heq;rw [iw,ah (by omega)];exact heq))
  | exact H.rt (aB vi (by rw [iw,ah (by omega)];exact heq))
  | exact H.rt (aB vi (by rw [iw,ah (by omega),← heq,show l.drop k=[] from jm (by omega)];rfl))
  | exact H.rt (aB vi (by rw [iw,au (by omega)]))
def Ai (l:List aO) (k:Int):Int × Bool:=if qm (l.map aO.key) k=true then ((l.getD (iG (l.map aO.key) k) ⟨0,0⟩).value,true) else (0,false)
theorem Wi (G:GH) (w0:World) (hG:Hold G w0) (l:List aO) (t:Int) (v:aj) (hv:av G (.sl 2 (l.map aO.dat)) v) (hl:l.length≤4294967296) :
  Calls prog 240 #[v,vi t] w0 (bH w0 G fun u G'=>u=.tuple #[vi (iG (l.map aO.key) t),.bool (qm (l.map aO.key) t)]):=by
 obtain ⟨A,c,rfl,hc1,hc2,-⟩:=hv.slice;rw [aZ] at *;refine eN [(0,_),(1,_)] func240 rfl ntmps240 rfl rfl hG ?_;intro a H;refine kP H (SR fun _ K1=>Ra rfl (ak K1 rfl (SR fun _ K2=>Rm rfl (Rm rfl ?_))));clear H K1;intro a H;refine s_call aiP H wn rfl (afj _ _ H.ro l t _ hv hl) rfl ?_;clear H;rintro v8 G8 a w rfl wF H;(iterate 2 refine lS H wn rfl rfl rfl ?_;clear H;intro a H);refine kH H (Ra rfl (ak K2 rfl ?_));clear H K2;intro a H;refine bS ?_;refine (eZ H results240 (.cons (aV H rfl) (.cons (aV H rfl) .nil)) ?_).1;exact H.rt rfl
theorem aku (G:GH) (w0:World) (hG:Hold G w0) (l:List aO) (t:Int) (v:aj) (hv:av G (.sl 2 (l.map aO.dat)) v) (hl:l.length≤4294967296) :
  Calls prog 213 #[v,vi t] w0 (bH w0 G fun u G'=>u=.tuple #[vi (Ai l t).1,.bool (Ai l t).2]):=by
 obtain ⟨A,c,rfl,hc1,hc2,-⟩:=hv.slice;rw [aZ] at *;refine eN [(0,_),(1,_)] func213 rfl ntmps213 rfl rfl hG ?_;intro a H;refine kP H (SR fun _ K1=>Ra rfl (ak K1 rfl (SR fun _ K2=>Rm rfl (Rm rfl ?_))));clear H K1;intro a H;refine s_call Sd H wn rfl (Wi _ _ H.ro l t _ hv hl) rfl ?_;clear H;rintro v11 tO a w rfl Dp H;obtain ⟨n,hn⟩:∃ n,n=iG (l.map aO.key) t:=⟨_,rfl⟩;obtain ⟨q,hq⟩:∃ q,q=qm (l.map aO.key) t:=⟨_,rfl⟩;rw [← hn,← hq] at H;refine kH H (Rm rfl ?_);clear H;intro a H;(iterate 2 refine lS H wn rfl rfl rfl ?_;clear H;intro a H);refine kH H (Ra rfl (ak K2 rfl (SQ fun _ K3=>SR fun _ K4=>Rm rfl (Rn rfl (Kz K4 (Cd rfl ?_ ?_)))))) <;> clear H K2 K4
 ·intro iD a H
  refine kP H (SR fun _ K5=>Ra rfl (ak K5 rfl ?_));clear H K5;intro a H;refine bS ?_;refine (eZ H results213 (.cons (aV H rfl) (.cons (aV H rfl) .nil)) ?_).1;exact H.rt (by rw [Ai,ah (by rw [← hq];simpa using iD)])
 intro iD a H
 try have pR:=dF iD
 have hlt:n < l.length:=by have:=LJ (ks:=l.map aO.key) (t:=t) (by rw [← hq];simpa using iD);rw [← hn] at this;simpa using this
 obtain ⟨b,o,rfl,hrow⟩:=HV (hv.mono Dp) hlt;have r1:aI tO b (o+n*2+1)=some (vi l[n].value):=hrow 1 _ rfl;refine kP H (Kc K3 (SR fun _ K6=>Rm rfl (Rm rfl (Ri gG gT rfl rfl (Rf Ol rfl (Rg aH rfl (by assumption) ?_))))));clear H K3;intro a H;refine kH H (Ra rfl (ak K6 rfl ?_));clear H K6;intro a H;refine bS ?_;refine (eZ H results213 (.cons (aV H rfl) (.cons (aV H rfl) .nil)) ?_).1;exact H.rt (by rw [Ai,au (by rw [← hq];simpa using iD),← hn,List.getD_eq_getElem?_getD,eD hlt];rfl)
theorem R4:∀ args w,(callFunc 159 args).run prog w=.ok (.enter 159 args) w:=enters func159 rfl (by kernel_rfl)
theorem aiD:∀ args w,(callFunc 241 args).run prog w=.ok (.enter 241 args) w:=enters func241 rfl (by kernel_rfl)
theorem arQ:qd prog 187 [(0,1),(1,1)] [.int .i64 0,.int .i64 0]:=⟨by kernel_rfl,by kernel_rfl⟩
theorem aiE:∀ args w,(callFunc 242 args).run prog w=.ok (.enter 242 args) w:=enters func242 rfl (by kernel_rfl)
theorem aqY {cur x ys A:List aj} {p q:Nat} (hA:cur.take p=A) (hp:p≤cur.length) (hx:x.length=q) (hl:p+q+ys.length≤cur.length):(seg (seg cur p x) (p+q) ys).take (p+q+ys.length)=A++x++ys∧(seg (seg cur p x) (p+q) ys).length=cur.length:=by
 have h1:(seg cur p x).length=cur.length:=Fe (by omega);refine ⟨?_,by rw [Fe (by rw [h1];omega),h1]⟩
 have h2:(seg cur p x).take (p+q)=A++x:=by
  rw [seg,hA,List.take_append_of_le_length (by rw [← hA];simp;omega),iX (by rw [← hA];simp;omega)]
 rw [seg,h2,List.take_append_of_le_length (by rw [← hA];simp;omega),iX (by rw [← hA];simp;omega)]
theorem aqZ {cur x ys A:List aj} {p q:Nat} (hA:cur.take p=A) (hp:p≤cur.length) (hx:x.length=q) (hl:p+q+ys.length≤cur.length):(seg (seg cur (p+q) ys) p x).take (p+q+ys.length)=A++x++ys∧(seg (seg cur (p+q) ys) p x).length=cur.length:=by
 have h1:(seg cur (p+q) ys).length=cur.length:=Fe (by omega);refine ⟨?_,by rw [Fe (by rw [h1];omega),h1]⟩
 have h2:(seg cur (p+q) ys).take p=A:=by
  rw [seg,iI,List.take_append_of_le_length (by simp;omega),List.take_take,Nat.min_eq_left (by omega),hA]
 have h3:(seg cur (p+q) ys).drop (p+q)=ys++cur.drop (p+q+ys.length):=by
  rw [seg,iI,List.drop_append_of_le_length (by simp;omega),jm (by simp;omega),lK]
 rw [seg,hx,h2,h3,← iI,List.take_append_of_le_length (by rw [← hA];simp;omega),iX (by rw [← hA];simp;omega)]
theorem aqX {cur ys A:List aj} {p:Nat} (hA:cur.take p=A) (hl:p+ys.length≤cur.length):(seg cur p ys).take (p+ys.length)=A++ys:=by
 rw [seg,hA,List.take_append_of_le_length (by rw [← hA];simp;omega),iX (by rw [← hA];simp;omega)]
theorem Qf {b o lo n c sz o' n' c':Nat} (h:¬ c=lo) (ho:o+lo*sz=o') (hn:n - lo=n') (hc:c - lo=c'):Value.slice (if c=lo then some ⟨b,o,none⟩ else (some ⟨b,o,none⟩:Option Addr).map (·.add (lo*sz))) (n - lo) (c - lo)=.slice (some ⟨b,o',none⟩) n' c':=by
 subst ho hn hc;rw [ah h,vW,add_lit]
set_option maxHeartbeats 4000000 in
theorem anw (G:GH) (w0:World) (Lo:OL) (hO:gL G Lo w0) (v:aj) (n i:Nat) (xs:List aj) (hrw:bY 187 2 v n xs Lo) (hx1:xs.all Value.oneCell'=true) (hi:i≤n) (hn:n≤4294967296) (bv:Nat) (x0 x1:aj) (hb:G bv=some (.cells #[x0,x1] 187 (0,0))) (h0:x0.oneCell'=true) (h1:x1.oneCell'=true) :
  Calls prog 241 #[v,vi i,.slice (some ⟨bv,0,none⟩) 1 1] w0 (gy w0 G Lo fun u G' L'=>bY 187 2 u (n+1) (xs.take (i*2)++[x0,x1]++xs.drop (i*2)) L'):=by
 have hml:maxLen=9223372036854775807:=rfl;obtain ⟨A,c,rfl,hc1,hc2⟩:=hrw.shape;have hxl:=hrw.1
 have hx2:[x0,x1].all Value.oneCell'=true:=by simp [h0,h1]
 have hgx:∀ {w:World} {G':GH},Hold G' w→(∀ b o,G b=some o→G' b=some o)→∀ j u,[x0,x1][j]?=some u→w.cell? ⟨bv,0+j,none⟩=some u:=fun {w} {G'} hG hm j u hj=>by
  simp [World.cell?,hG _ _ (hm _ _ hb),← hj]
 refine iY (N:=95) (T:=[(0,_),(1,_),(2,_)]) func241 rfl ntmps241 rfl rfl hO ?_;intro a H;refine kP H (SR fun _ K1=>ak K1 rfl (SR fun _ K2=>Rm rfl (Rm rfl ?_)));clear H K1;intro a H;refine zP gG gT i H wn rfl rfl rfl hi rfl ?_;clear H;intro a H;refine K2 _ _ ?_;clear K2;refine kP H (SR fun _ K3=>Rm rfl (Rl gG rfl (ak K3 rfl (SQ fun _ K4=>SR fun _ K5=>Rm rfl (Rc rfl (Kz K5 (Cd rfl ?_ ?_))))))) <;> clear H K3 K5
 ·intro h16 a H
  try have p16:=dT h16
  exact absurd p16 (by decide)
 intro h16 a H
 try have p16:=dF h16
 refine kP H (Kc K4 (SR fun _ K6=>Rm rfl (Rl gG rfl (ak K6 rfl (SQ fun _ K7=>SR fun _ K8=>Rm rfl (Rm rfl (Rc rfl (Kz K8 (Cd rfl ?_ ?_))))))))) <;> clear H K4 K6 K8
 ·intro h22 a H
  try have iZ:=dT h22
  refine kP H (SR fun _ K9=>Rm rfl (Rm rfl ?_));clear H;intro a H;refine nk (Li:=[]) (Lo:=Lo) (news:=[x0,x1]) gG gT rfl rfl H wn rfl rfl hrw rfl (hgx H.ro fun _ _ h=>h) hx2 (by omega) (by omega) rfl ?_;clear H;intro v25 atn a w amH H;dsimp only [List.nil_append] at H;refine kH H (ak K9 rfl ?_);clear H K9;intro a H;refine lr H results241 rfl ?_
  exact H.hp.dJ (by
   have e:i=n:=by omega
   have e1:xs.take (i*2)=xs:=iX (by omega);have e2:xs.drop (i*2)=[]:=jm (by omega)
   rw [e1,e2,jd];exact amH)
 intro h22 a H
 try have iZ:=dF h22
 have hlt:i < n:=by omega
 obtain ⟨b,cap,cur,he,rfl,-,-,hcs,hct⟩:=hrw.2.resolve_left (fun h=>by omega)
 injection he with e1 e2 e3
 subst e1 e3;obtain ⟨cur,rfl⟩:∃ l:List aj,cur=l.toArray:=⟨cur.toList,by simp⟩
 simp only [List.size_toArray,List.toList_toArray] at hcs hct
 have OI:cur.take (i*2)=xs.take (i*2):=by rw [← hct,List.take_take,Nat.min_eq_left (by omega)]
 have hcd:∀ j u,(xs.drop (i*2))[j]?=some u→cur[i*2+j]?=some u:=fun j u hj=>by
  rw [List.getElem?_drop,← hct,tT] at hj
  split at hj
  ·exact hj
  cases hj
 have alE:∀ j u,(xs.take (i*2))[j]?=some u→cur[j]?=some u:=fun j u hj=>by
  rw [← OI,tT] at hj
  split at hj
  ·exact hj
  cases hj
 have hyl:(xs.drop (i*2)).length=(n - i)*2:=by rw [List.length_drop,hxl];omega
 have hy1:(xs.drop (i*2)).all Value.oneCell'=true:=kM.2 fun u hu=>kM.1 hx1 u (List.mem_of_mem_drop hu)
 have hbne:bv≠b:=fun e=>by have:=hO.sep (b,_) (List.mem_singleton_self _);rw [← e,hb] at this;cases this
 refine kP H (Kc K7 (SQ fun _ aW=>SR fun _ bO=>Rm rfl (Rm rfl (Rd rfl (Rm rfl ?_)))));clear H K7;intro a H;refine aqy gG H wn rfl rfl ?_;clear H;intro a H;refine kH H (Rc rfl (Kz bO (Cd rfl ?_ ?_))) <;> clear H bO
 ·intro h31 a H
  try have p31:=dT h31
  refine kP H (SR fun _ bW=>Rm rfl (Rm rfl ?_));clear H;intro a H;refine Fb gG gT i H wn rfl rfl rfl (by omega) rfl ?_;clear H;intro a H;refine kH H (Rm rfl (Rm rfl (Rd rfl (Rm rfl (Rs rfl ?_)))));clear H;intro a H;refine aqu (m:=n+1 - i) gG lJ gT rfl rfl (xs.take (i*2)) H wn rfl rfl (by omega) (by rw [List.length_take,hxl];omega) (fun j u hj=>H.hp.qM 0 rfl (by rw [gJ];simpa using alE j u hj)) (by omega) (by omega) (by omega) (by omega) rfl ?_;clear H;intro b2 cap2 Er a w hq1 hq2 hq3 hq4 H;rw [show i+(n+1 - i)=n+1 by omega] at hq1 H;refine kH H (ak bW rfl (SR fun _ cB=>Rm rfl (Rm rfl ?_)));clear H bW;intro a H;refine zP gG gT i H wn rfl rfl rfl (by omega) rfl ?_;clear H;intro a H;rw [ah (by omega),vW,add_lit,gJ] at H;refine kH H (Rm rfl ?_);clear H;intro a H;refine P9 gG gT 0 1 [x0,x1] H wn rfl rfl rfl (by omega) rfl (hgx H.ro fun _ _ h=>h) (by simp;omega) hx2 rfl ?_;clear H;intro a w H;dsimp only [List.set] at H;obtain ⟨amU,amV⟩:=aqY (x:=[x0,x1]) (ys:=xs.drop (i*2)) (q:=2) hq4 (by omega) rfl (by rw [hyl];omega);refine cB _ _ ?_;clear cB;refine bN (fun _ dw=>?_);refine dI hmx [[],[],[],[1,2],(ra 0 4),[],[],[5,6],(ra 0 8)] [8] (by kernel_rfl) [_,_,_,_,.slice (some ⟨b2,i*2+2,none⟩) (n - i) (cap2 - (i+1)),_,_,.slice (some ⟨b,i*2,none⟩) (n - i) (c - i)] H (aF (Z0 rfl (Rm rfl)) (Z0 rfl (Rm rfl)) (Z0 rfl (Rm rfl)) (Z2 1 47 2 48 rfl (Rd rfl)) (aF ?_ (Z0 rfl (Rm rfl)) (Z0 rfl (Rm rfl)) ?_ (bM (bQ rfl) dz))) ?_
  ·refine dK 0 46 3 49 rfl rfl fun _ a w G1 hG HT H fin=>?_;refine zP gG gT (i+1) H wn rfl rfl (by omega) (by omega) rfl ?_;clear H;intro a H;exact fin H iJ (Qf (by omega) (by omega) (by omega) rfl)
  ·refine dK 5 51 6 52 rfl rfl fun _ a w G1 hG HT H fin=>?_;refine zP gG gT i H wn rfl rfl rfl (by omega) rfl ?_;clear H;intro a H;exact fin H iJ (Qf (by omega) (by omega) (by omega) rfl)
  clear H;intro a w G lW H hv;have H:=H.aM (hv 4 50 rfl rfl) rfl;have H:=H.aM (hv 7 53 rfl rfl) rfl;clear hv;refine P9 gG gT 0 (n - i) (xs.drop (i*2)) H wn rfl rfl rfl (by omega) hyl (fun j u hj=>H.hp.qM 1 rfl (by simpa using hcd j u hj)) (by rw [Fe (by simp;omega),hyl];omega) hy1 rfl ?_;clear H;intro a w H;dsimp only [List.set] at H;refine aD ⟨rfl,?_⟩;refine dw _ _ ?_;clear dw;exact kP H (SR fun _ dR=>Rm rfl (ak dR rfl (LR results241 rfl fun H=>H.hp.gB (L':=[_]) (List.Sublist.cons_cons _ (List.nil_sublist _)) ⟨by simp [List.length_take,hxl,hyl];omega,.inr ⟨b2,cap2,_,rfl,rfl,hq1,hq2,by rw [List.size_toArray,amV,hq3],by rw [List.toList_toArray];rw [← amU];congr 1;rw [hyl];omega⟩⟩)))
 intro h31 a H
 try have p31:=dF h31
 refine kP H (Kc aW (SR fun _ dW=>Rm rfl (Rm rfl (Rm rfl (Rd rfl ?_)))));clear H aW;intro a H;refine Fb gG gT (n+1) H wn rfl rfl (by omega) (by omega) rfl ?_;clear H;intro a H;refine kH H (ak dW rfl (SQ fun _ dU=>SR fun _ eG=>Rm rfl (Rm rfl (Rm rfl (Rm rfl (Rd rfl ?_))))));clear H dW;intro a H;refine zP gG gT (i+1) H wn rfl rfl (by omega) (by omega) rfl ?_;clear H;intro a H;rw [ah (by omega),vW,add_lit,gJ] at H;refine aqH (t:=23) (tr:=4) func262 (by kernel_rfl) (by kernel_rfl) (by kernel_rfl) (by kernel_rfl) gG gT H wn rfl rfl (H.ro _ _ hb) (H.hp.own (b,_) (List.mem_singleton_self _)) hbne (by rw [List.size_toArray,hcs];omega) rfl ?_;clear H;intro a H;refine kH H (Rn rfl (Kz eG (Cd rfl ?_ ?_))) <;> clear H eG
 ·intro h68 a H
  try have p68:=dT h68
  refine bN (fun _ gu=>?_);refine dI hmx [[],[],[],[1,2],(ra 0 4),[],[],[5,6],(ra 0 8)] [8] (by kernel_rfl) [_,_,_,_,.slice (some ⟨b,i*2+2,none⟩) (n - i) (c - (i+1)),_,_,.slice (some ⟨b,i*2,none⟩) (n+1 - i) (c - i)] H (aF (Z0 rfl (Rm rfl)) (Z0 rfl (Rm rfl)) (Z0 rfl (Rm rfl)) (Z2 1 70 2 71 rfl (Rd rfl)) (aF ?_ (Z0 rfl (Rm rfl)) (Z0 rfl (Rm rfl)) ?_ (bM (bQ rfl) dz))) ?_
  ·refine dK 0 69 3 72 rfl rfl fun _ a w G1 hG HT H fin=>?_;refine zP gG gT (i+1) H wn rfl rfl (by omega) (by omega) rfl ?_;clear H;intro a H;exact fin H iJ (Qf (by omega) (by omega) (by omega) rfl)
  ·refine dK 5 74 6 75 rfl rfl fun _ a w G1 hG HT H fin=>?_;refine zP gG gT i H wn rfl rfl rfl (by omega) rfl ?_;clear H;intro a H;exact fin H iJ (Qf (by omega) (by omega) (by omega) rfl)
  clear H;intro a w G Dh H hv;have H:=H.aM (hv 4 73 rfl rfl) rfl;have H:=H.aM (hv 7 76 rfl rfl) rfl;clear hv;refine P9 gG gT 0 (n - i) (xs.drop (i*2)) H wn rfl rfl rfl (by omega) hyl (fun j u hj=>H.hp.qM 0 rfl (by simpa using hcd j u hj)) (by rw [hyl];omega) hy1 rfl ?_;clear H;intro a w H;dsimp only [List.set] at H;obtain ⟨amW,amX⟩:=aqZ (x:=[x0,x1]) (ys:=xs.drop (i*2)) (q:=2) OI (by omega) rfl (by rw [hyl];omega);refine aD ⟨rfl,?_⟩;refine gu _ _ ?_;clear gu;refine kP H (SR fun _ fC=>Rm rfl (Rm rfl ?_));clear H;intro a H;refine zP gG gT i H wn rfl rfl rfl (by omega) rfl ?_;clear H;intro a H;rw [ah (by omega),vW,add_lit,gJ] at H;refine kH H (Rm rfl ?_);clear H;intro a H;refine P9 gG gT 0 1 [x0,x1] H wn rfl rfl rfl (by omega) rfl (hgx H.ro Dh) (by rw [Fe (by rw [hyl];omega)];simp;omega) hx2 rfl ?_;clear H;intro a w H;dsimp only [List.set] at H;refine fC _ _ ?_;clear fC;exact kP H (SR fun _ gH=>Rm rfl (ak gH rfl (LR results241 rfl fun H=>H.hp.dJ ⟨by simp [List.length_take,hxl,hyl];omega,.inr ⟨b,c,_,rfl,rfl,by omega,hc2,by rw [List.size_toArray,amX,hcs],by rw [List.toList_toArray];rw [← amW];congr 1;rw [hyl];omega⟩⟩)))
 intro h68 a H
 exact absurd (show true=false from h68) (by decide)
set_option maxHeartbeats 4000000 in
theorem agM (G:GH) (w0:World) (Lo:OL) (hO:gL G Lo w0) (v:aj) (n i:Nat) (xs:List aj) (hrw:bY 187 2 v n xs Lo) (hx1:xs.all Value.oneCell'=true) (hi:i < n) (hn:n≤4294967296) :
  Calls prog 242 #[v,vi i,vi ((i:Int)+1)] w0 (gy w0 G Lo fun u G' L'=>bY 187 2 u (n - 1) (xs.take (i*2)++xs.drop ((i+1)*2)) L'):=by
 have hml:maxLen=9223372036854775807:=rfl;have hxl:=hrw.1;obtain ⟨b,c,cur,rfl,rfl,hc1,hc2,hcs,hct⟩:=hrw.2.resolve_left (fun h=>by omega);obtain ⟨cur,rfl⟩:∃ l:List aj,cur=l.toArray:=⟨cur.toList,by simp⟩
 simp only [List.size_toArray,List.toList_toArray] at hcs hct
 have OI:cur.take (i*2)=xs.take (i*2):=by rw [← hct,List.take_take,Nat.min_eq_left (by omega)]
 have hcd:∀ j u,(xs.drop ((i+1)*2))[j]?=some u→cur[(i+1)*2+j]?=some u:=fun j u hj=>by
  rw [List.getElem?_drop,← hct,tT] at hj
  split at hj
  ·exact hj
  cases hj
 have hyl:(xs.drop ((i+1)*2)).length=(n - (i+1))*2:=by rw [List.length_drop,hxl];omega
 have hy1:(xs.drop ((i+1)*2)).all Value.oneCell'=true:=kM.2 fun u hu=>kM.1 hx1 u (List.mem_of_mem_drop hu)
 obtain ⟨o2,ho2,ho3⟩:∃ o2,(if c=i+1 then some ⟨b,0,none⟩ else (some ⟨b,0,none⟩:Option Addr).map (·.add ((i+1)*2)))=some ⟨b,o2,none⟩∧(i+1 < n→o2=(i+1)*2):=by
  by_cases h:c=i+1
  ·rw [au h];exact ⟨0,rfl,fun h=>by omega⟩
  rw [ah h,vW,add_lit,gJ];exact ⟨_,rfl,fun _=>rfl⟩
 have hsd:=aqX (ys:=xs.drop ((i+1)*2)) OI (by rw [hyl];omega);rw [hyl,show i*2+(n - (i+1))*2=(n - 1)*2 by omega] at hsd;refine iY (N:=33) (T:=[(0,_),(1,_),(2,_)]) func242 rfl ntmps242 rfl rfl hO ?_;intro a H;refine kP H (SR fun _ K1=>ak K1 rfl (SR fun _ K2=>Rm rfl (Rm rfl (Rm rfl (Rm rfl (Rl gG rfl ?_))))));clear H K1;intro a H;refine aqL gG gT i (i+1) n H wn rfl rfl rfl rfl rfl (by omega) rfl (by omega) (by omega) hc1 rfl ?_;clear H;intro v13 a H;refine K2 _ _ ?_;clear K2;refine kP H (SQ fun _ K3=>SR fun _ K4=>Rm rfl (Rm rfl (Rc rfl (Kz K4 (Cd rfl ?_ ?_))))) <;> clear H K4
 ·intro h16 a H
  try have p16:=dT h16
  exfalso;omega
 intro h16 a H
 try have p16:=dF h16
 refine kP H (Kc K3 (SR fun _ K5=>Rm rfl (Rl gG rfl (ak K5 rfl (SQ fun _ K6=>?_)))));clear H K3 K5;intro a H;refine dI hmx [[],[],[0,1],[],[],[3,4],(ra 0 6),(ra 0 7)] [6,7] (by kernel_rfl) [_,_,.slice (some ⟨b,0,none⟩) i c,_,_,.slice (some ⟨b,o2,none⟩) (n - (i+1)) (c - (i+1))] H (aF (Z0 rfl (Rm rfl)) (Z0 rfl (Rm rfl)) ?_ (Z0 rfl (Rm rfl)) (aF (Z0 rfl (Rm rfl)) ?_ (bQ rfl) (bQ rfl) dz)) ?_
 ·refine dK 0 20 1 21 rfl rfl fun _ a w G1 hG HT H fin=>?_;refine Fb gG gT i H wn rfl rfl rfl (by omega) rfl ?_;clear H;intro a H;exact fin H iJ rfl
 ·refine dK 3 23 4 24 rfl rfl fun _ a w G1 hG HT H fin=>?_;refine zP gG gT (i+1) H wn rfl rfl (by omega) (by omega) rfl ?_;clear H;intro a H;exact fin H iJ (aB (fun A=>Value.slice A (n - (i+1)) (c - (i+1))) ho2)
 clear H;intro a w G mR H hv;have H:=H.aM (hv 2 22 rfl rfl) rfl;have H:=H.aM (hv 5 25 rfl rfl) rfl;clear hv
 refine aqt gG gT 0 (xs.drop ((i+1)*2)) H wn rfl rfl rfl hyl (fun j u hj=>H.hp.qM 0 rfl (by
  have hj2:=(jH.1 hj).1;rw [hyl] at hj2
  rw [ho3 (by omega)];simpa using hcd j u hj)) hy1 (by omega) (by rw [hyl];omega) rfl ?_;clear H;intro a w H
 dsimp only [List.set] at H;rw [show i+(n - (i+1))=n - 1 by omega] at H;refine kH H (Ra rfl ?_);clear H;intro a H;refine aD ⟨rfl,?_⟩;refine K6 _ _ ?_;clear K6;refine kP H (SR fun _ K7=>Rm rfl (Rm rfl (Rl gG rfl (Rm rfl ?_))));clear H;intro a H;refine aqK gG gT (n - 1) n H wn rfl rfl rfl rfl rfl (by omega) (by omega) rfl ?_;clear H;intro a H;rw [ah (by omega),vW,add_lit,gJ,show n - (n - 1)=1 by omega] at H;refine acZ gG gT rfl rfl 0 H wn rfl rfl (by omega) (by rw [Fe (by rw [hyl];omega)];omega) ?_;clear H;intro c2 w hq1 hq2 H;dsimp only [List.set] at H;refine K7 _ _ ?_;clear K7;exact kP H (SR fun _ K8=>Rm rfl (ak K8 rfl (LR results242 rfl fun H=>H.hp.dJ ⟨by simp [List.length_take,hxl];omega,.inr ⟨b,c,_,rfl,rfl,by omega,hc2,by rw [List.size_toArray,hq1,Fe (by rw [hyl];omega),hcs],by rw [List.toList_toArray,hq2,hsd]⟩⟩)))
def Fg (l:List aO) (k v:Int):List aO:=if qm (l.map aO.key) k=true then l.set (iG (l.map aO.key) k) ⟨(l.getD (iG (l.map aO.key) k) ⟨0,0⟩).key,v⟩ else l.take (iG (l.map aO.key) k)++⟨k,v⟩ :: l.drop (iG (l.map aO.key) k)
def Ep (l:List aO) (k:Int):List aO:=if qm (l.map aO.key) k=true then l.take (iG (l.map aO.key) k)++l.drop (iG (l.map aO.key) k+1) else l
theorem NY (l:List aO) (i:Nat) (h:i≤l.length):(lM l).take (i*2)=lM (l.take i)∧(lM l).drop (i*2)=lM (l.drop i):=by
 have e:lM l=lM (l.take i)++lM (l.drop i):=by rw [← KJ,List.take_append_drop]
 have hl:(lM (l.take i)).length=i*2:=by rw [RO,List.length_take,Nat.min_eq_left h]
 rw [e];exact ⟨by rw [List.take_append_of_le_length (by omega),iX (by omega)],by rw [List.drop_append_of_le_length (by omega),jm (by omega),lK]⟩
theorem Yz (l:List aO):(lM l).all Value.oneCell'=true:=by
 rw [kM];intro u hu;obtain ⟨cs,hcs,hu⟩:=List.mem_flatten.1 hu;obtain ⟨p,-,rfl⟩:=List.mem_map.1 hcs
 simp only [aO.cells,kL,List.mem_nil_iff,or_false] at hu
 rcases hu with rfl|rfl <;> rfl
theorem agJ (l:List aO) (i:Nat) (h:i < l.length) (v:Int):(lM l).set (i*2+1) (vi v)=lM (l.set i ⟨l[i].key,v⟩):=by
 have e:lM l=lM (l.take i)++([vi l[i].key,vi l[i].value]++lM (l.drop (i+1))):=by
  conv=>lhs;rw [← List.take_append_drop i l,oh h,KJ]
  rfl
 have hl:(lM (l.take i)).length=i*2:=by rw [RO,List.length_take,Nat.min_eq_left (by omega)]
 rw [e,List.set_append_right _ _ (by omega),hl,show i*2+1 - i*2=1 by omega,show ([vi l[i].key,vi l[i].value]++lM (l.drop (i+1))).set 1 (vi v)=[vi l[i].key,vi v]++lM (l.drop (i+1)) from rfl,List.set_eq_take_append_cons_drop (l:=l),au h,KJ]
 rfl
set_option maxHeartbeats 1000000 in
theorem arh (G:GH) (w0:World) (hG:Hold G w0) (l:List aO) (k x:Int) (v:aj) (hv:av G (.sl 2 (l.map aO.dat)) v) (hl:l.length≤4294967295) :
  Calls prog 214 #[v,vi k,vi x] w0 (bH w0 G fun u G'=>av G' (.sl 2 ((Fg l k x).map aO.dat)) u):=by
 obtain ⟨A,c,rfl,hc1,hc2,-⟩:=hv.slice;rw [aZ] at *;refine eN [(0,_),(1,_),(2,_)] func214 rfl ntmps214 rfl rfl hG ?_;intro a H;refine kP H (SR fun _ K1=>ak K1 rfl (SR fun _ K2=>Rm rfl (Rm rfl ?_)));clear H K1;intro a H;refine s_call Sd H wn rfl (Wi _ _ H.ro l k _ hv (by omega)) rfl ?_;clear H;rintro v13 Ea a w rfl vE H;obtain ⟨n,hn⟩:∃ n,n=iG (l.map aO.key) k:=⟨_,rfl⟩;obtain ⟨q,hq⟩:∃ q,q=qm (l.map aO.key) k:=⟨_,rfl⟩;rw [← hn,← hq] at H;refine kH H (Rm rfl ?_);clear H;intro a H;(iterate 2 refine lS H wn rfl rfl rfl ?_;clear H;intro a H);refine kH H (Ra rfl (ak K2 rfl (SR fun _ K3=>Rm rfl ?_)));clear H K2;intro a H;refine gW R4 (Li:=[]) (L:=[]) H wn rfl (acu (Hp.owns (Li:=[]) H.hp) l _ (hv.mono vE) (by omega)) rfl ?_;clear H;rintro v17 xX QU a w O5 rD H;dsimp only [List.nil_append] at H;obtain ⟨A17,c17,rfl,-,-⟩:=O5.shape;refine kH H (ak K3 rfl (SQ fun _ K4=>SR fun _ K5=>Rm rfl (Kz K5 (Cd rfl ?_ ?_)))) <;> clear H K3 K5
 ·intro h18 a H
  try have tL:=dT h18
  refine bN (fun _ K6=>?_)
  have hlt:n < l.length:=by
   have:=LJ (ks:=l.map aO.key) (t:=k) (by rw [← hq];assumption);rw [← hn] at this;simpa using this
  obtain ⟨bb,rfl⟩:=O5.ptr (by omega);obtain ⟨cur,-,rfl,hcur,hset⟩:=O5.set1;refine kP H (SC (Rm rfl (Rm rfl (Rm rfl ?_))));clear H;intro a H;refine vN gG gT n H wn rfl rfl rfl (by omega) rfl ?_;clear H;intro a H;refine kH H (Rf Ol rfl ?_);clear H;intro a H;refine aY aH 0 (c:=cur) (vs:=[vi x]) (cur.set (n*2+1) (vi x)) H wn rfl rfl rfl rfl rfl rfl (by simp;omega) (by rw [gJ];rfl) ?_;clear H;intro w H;dsimp only [List.set] at H;have hrwn:=hset (n*2+1) (vi x);rw [agJ l n hlt] at hrwn;obtain ⟨G',hm',hrep,H⟩:=St.nQ (Li:=[]) H hrwn (rows:=(l.set n ⟨l[n].key,x⟩).map aO.dat) (by simp) (PS _ _);exact kH H (Kn K6 (SR fun _ K7=>Rm rfl (ak K7 rfl (LR results214 rfl fun H=>H.rt (by rw [Fg,au (by rw [← hq];assumption),← hn,List.getD_eq_getElem?_getD,eD hlt];exact hrep)))))
 intro h18 a H
 try have tL:=dF h18
 refine kP H (Kc K4 (SR fun _ K8=>Rm rfl (Rm rfl (Rm rfl (Rm rfl ?_)))));clear H K4;intro a H;refine jv arQ [_,_] H wn rfl rfl rfl rfl ?_;clear H;intro a H;refine ig gG gT [_,_] [_,_] H wn rfl rfl rfl rfl rfl (by intro i q h;match i,h with|0,h=>exact h|n+1,h=>simp at h) rfl rfl ?_;clear H;intro X4 a w ali H;obtain ⟨Gb,hmb,alj,H⟩:=H.eH;refine gW aiD (Li:=[]) (L:=QU) H wn rfl (anw _ _ QU (Hp.owns (Li:=[]) H.hp) _ l.length n (lM l) O5 (Yz l) (by rw [hn];exact Nat.le_trans (FN _ _) (by simp)) (by omega) X4 (vi k) (vi x) alj rfl rfl) rfl ?_;clear H;rintro v31 G31 L31 a w O6 auh H;rw [(NY l n (by rw [hn];exact Nat.le_trans (FN _ _) (by simp))).1,(NY l n (by rw [hn];exact Nat.le_trans (FN _ _) (by simp))).2] at O6
 obtain ⟨G',hm',hrep,H⟩:=St.nQ (Li:=[]) H O6 (rows:=(l.take n++⟨k,x⟩ :: l.drop n).map aO.dat) (by simp;have:=FN (l.map aO.key) k;rw [← hn] at this;simp at this;omega) (by
  have h:bR G31 2 ((l.take n++⟨k,x⟩ :: l.drop n).map aO.dat) (lM (l.take n++⟨k,x⟩ :: l.drop n)):=PS _ _;rw [KJ] at h
  simpa [lM,aO.cells] using h)
 exact kH H (ak K8 rfl (LR results214 rfl fun H=>H.rt (by rw [Fg,ah (by rw [← hq];simp_all),← hn];exact hrep)))
set_option maxHeartbeats 1000000 in
theorem afZ (G:GH) (w0:World) (hG:Hold G w0) (l:List aO) (k:Int) (v:aj) (hv:av G (.sl 2 (l.map aO.dat)) v) (hl:l.length≤4294967295) :
  Calls prog 215 #[v,vi k] w0 (bH w0 G fun u G'=>av G' (.sl 2 ((Ep l k).map aO.dat)) u):=by
 obtain ⟨A,c,rfl,hc1,hc2,-⟩:=hv.slice;rw [aZ] at *;refine eN [(0,_),(1,_)] func215 rfl ntmps215 rfl rfl hG ?_;intro a H;refine kP H (SR fun _ K1=>ak K1 rfl (SR fun _ K2=>Rm rfl (Rm rfl ?_)));clear H K1;intro a H;refine s_call Sd H wn rfl (Wi _ _ H.ro l k _ hv (by omega)) rfl ?_;clear H;rintro v11 tO a w rfl Dp H;obtain ⟨n,hn⟩:∃ n,n=iG (l.map aO.key) k:=⟨_,rfl⟩;obtain ⟨q,hq⟩:∃ q,q=qm (l.map aO.key) k:=⟨_,rfl⟩;rw [← hn,← hq] at H;refine kH H (Rm rfl ?_);clear H;intro a H;(iterate 2 refine lS H wn rfl rfl rfl ?_;clear H;intro a H);refine kH H (Ra rfl (ak K2 rfl (SR fun _ K3=>Rm rfl ?_)));clear H K2;intro a H;refine gW R4 (Li:=[]) (L:=[]) H wn rfl (acu (Hp.owns (Li:=[]) H.hp) l _ (hv.mono Dp) (by omega)) rfl ?_;clear H;rintro v15 CO QT a w UN sI H;dsimp only [List.nil_append] at H;obtain ⟨WX,c15,rfl,-,-⟩:=UN.shape;refine kH H (ak K3 rfl (SQ fun _ K4=>SR fun _ K5=>Rm rfl (Kz K5 (Cd rfl ?_ ?_)))) <;> clear H K3 K5
 ·intro h16 a H
  try have p16:=dT h16
  have hlt:n < l.length:=by
   have:=LJ (ks:=l.map aO.key) (t:=k) (by rw [← hq];assumption);rw [← hn] at this;simpa using this
  refine kP H (SC (Rm rfl (Rm rfl (Rm rfl (Rd rfl ?_)))));clear H;intro a H;refine gW aiE (Li:=[]) (L:=QT) H wn rfl (agM _ _ QT (Hp.owns (Li:=[]) H.hp) _ l.length n (lM l) UN (Yz l) hlt (by omega)) rfl ?_;clear H;rintro v21 Nk L21 a w aaX yJ H;rw [(NY l n (by omega)).1,(NY l (n+1) (by omega)).2,← KJ] at aaX;obtain ⟨G',hm',hrep,H⟩:=St.nQ (Li:=[]) H aaX (rows:=(l.take n++l.drop (n+1)).map aO.dat) (by simp;omega) (PS _ _);exact kH H (bC K4 rfl (SR fun _ K6=>Rm rfl (ak K6 rfl (LR results215 rfl fun H=>H.rt (by rw [Ep,au (by rw [← hq];assumption),← hn];exact hrep)))))
 intro h16 a H
 try have p16:=dF h16
 obtain ⟨G',hm',hrep,H⟩:=St.nQ (Li:=[]) H UN (rows:=l.map aO.dat) (by simp) (PS _ _);exact kP H (Kc K4 (SR fun _ K7=>Rm rfl (ak K7 rfl (LR results215 rfl fun H=>H.rt (by rw [Ep,ah (by rw [← hq];simp_all)];exact hrep)))))
end Go.Proofs.YtdiflmikikiedaaGreat
