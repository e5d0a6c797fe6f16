/-
  What the claim stands on, part 2: Cp Run Rg Pos Pq Doc Dq Idx Plc Plr Hv Prk Dlf Prp Prq Prc Pst.
-/
import Derived.Test.YtdiflmikikiedaaGreatWda
import Derived.Test.YtdiflmikikiedaaGreatRows
namespace Go.Proofs.YtdiflmikikiedaaGreat
open Go.Proofs.Tryz
open Go.RowKit
theorem lu:prog.underlying 3=some (.int .i64):=by kernel_rfl
theorem LP:prog.underlying 5=some (.int .u8):=by kernel_rfl
theorem iB:prog.underlying 9=some .string:=by kernel_rfl
theorem ahZ:∀ args w,(callFunc 268 args).run prog w=.ok (.enter 268 args) w:=enters func268 rfl (by kernel_rfl)
theorem ahO:∀ args w,(callFunc 249 args).run prog w=.ok (.enter 249 args) w:=enters func249 rfl (by kernel_rfl)
theorem ahE:∀ args w,(callFunc 225 args).run prog w=.ok (.enter 225 args) w:=enters func225 rfl (by kernel_rfl)
theorem JW:∀ args w,(callFunc 193 args).run prog w=.ok (.enter 193 args) w:=enters func193 rfl (by kernel_rfl)
def ji (b:Int):Int × Int × Int :=
  (if b=224 then 160 else if b=240 then 144 else 128,if b=237 then 159 else if b=244 then 143 else 191,
   if b < 128 then 1 else if b < 194∨244 < b then 0 else if b < 224 then 2 else if b < 240 then 3 else 4)
theorem Vi (b:Int):0≤(ji b).2.2∧(ji b).2.2≤4:=by
 simp only [ji];split
 ·omega
 split
 ·omega
 split
 ·omega
 split <;> omega
theorem arj (G:GH) (w0:World) (hG:Hold G w0) (b:Int) :
  Calls prog 268 #[.int .u8 b] w0 (aZ w0 G fun v G'=>v=.tuple #[.int .u8 (ji b).1,.int .u8 (ji b).2.1,.int .i64 (ji b).2.2]∧G=G'):=by
 refine eN [(0,_)] func268 rfl ntmps268 rfl rfl hG ?_;intro a H;refine kP H (SR fun _ K1=>Ra rfl (Ra rfl (ak K1 rfl (SR fun _ K2=>Ra rfl (ak K2 rfl (SQ fun _ K3=>SB (SR fun _ K4=>Rm rfl (Rc rfl (ak K4 rfl (Cd rfl ?_ ?_)))))))))) <;> clear H K1 K2 K4
 ·intro h5 a H
  try have p5:=dT h5
  refine kP H (SC (bq K3 rfl (SQ fun _ K5=>SR fun _ K6=>Rm rfl (Kz K6 (SB (SR fun _ K7=>Rc rfl (ak K7 rfl (Cd rfl ?_ ?_)))))))) <;> clear H K3 K6 K7
  ·intro h22 a H
   try have iZ:=dT h22
   refine kP H (SC (bq K5 rfl (SR fun _ K8=>Rm rfl (Rm rfl (Rm rfl (Ra rfl (Ra rfl (ak K8 rfl ?_))))))));clear H K5 K8;intro a H;refine bW ?_;refine (eY H results268 (.cons (aT H rfl) (.cons (aT H rfl) (.cons (aT H rfl) .nil))) ?_).1
   first|(exfalso;omega)|exact H.rt ⟨by simp only [ji];repeat (first|rw [au (by omega)]|rw [ah (by omega)]),rfl⟩
  intro h22 a H
  try have iZ:=dF h22
  refine kP H (SR fun _ K9=>Rc rfl (ak K9 rfl (Cd rfl ?_ ?_))) <;> clear H K9
  ·intro fB a H
   try have mU:=dT fB
   refine kP H (SC (bq K5 rfl (SR fun _ aR=>Rm rfl (Rm rfl (Rm rfl (Ra rfl (Ra rfl (ak aR rfl ?_))))))));clear H K5 aR;intro a H;refine bW ?_;refine (eY H results268 (.cons (aT H rfl) (.cons (aT H rfl) (.cons (aT H rfl) .nil))) ?_).1
   first|(exfalso;omega)|exact H.rt ⟨by simp only [ji];repeat (first|rw [au (by omega)]|rw [ah (by omega)]),rfl⟩
  intro fB a H
  try have mU:=dF fB
  refine kP H (SR fun _ bQ=>Rc rfl (ak bQ rfl (Cd rfl ?_ ?_))) <;> clear H bQ
  ·intro jE a H
   try have p26:=dT jE
   refine kP H (SC (bq K5 rfl (SR fun _ bY=>Rm rfl (Rm rfl (Rm rfl (Ra rfl (Ra rfl (ak bY rfl ?_))))))));clear H K5 bY;intro a H;refine bW ?_;refine (eY H results268 (.cons (aT H rfl) (.cons (aT H rfl) (.cons (aT H rfl) .nil))) ?_).1
   first|(exfalso;omega)|exact H.rt ⟨by simp only [ji];repeat (first|rw [au (by omega)]|rw [ah (by omega)]),rfl⟩
  intro jE a H
  try have p26:=dF jE
  refine kP H (SR fun _ cZ=>Rc rfl (ak cZ rfl (Cd rfl ?_ ?_))) <;> clear H cZ
  ·intro fQ a H
   try have p28:=dT fQ
   refine kP H (SC (bq K5 rfl (SR fun _ dG=>Rm rfl (Rm rfl (Rm rfl (Ra rfl (Ra rfl (ak dG rfl ?_))))))));clear H K5 dG;intro a H;refine bW ?_;refine (eY H results268 (.cons (aT H rfl) (.cons (aT H rfl) (.cons (aT H rfl) .nil))) ?_).1
   first|(exfalso;omega)|exact H.rt ⟨by simp only [ji];repeat (first|rw [au (by omega)]|rw [ah (by omega)]),rfl⟩
  intro fQ a H
  try have p28:=dF fQ
  refine kP H (Kc K5 (SR fun _ dZ=>Rm rfl (Rm rfl (Rm rfl (Ra rfl (Ra rfl (ak dZ rfl ?_)))))));clear H K5 dZ;intro a H;refine bW ?_;refine (eY H results268 (.cons (aT H rfl) (.cons (aT H rfl) (.cons (aT H rfl) .nil))) ?_).1
  first|(exfalso;omega)|exact H.rt ⟨by simp only [ji];repeat (first|rw [au (by omega)]|rw [ah (by omega)]),rfl⟩
 intro h5 a H
 try have p5:=dF h5
 refine kP H (SR fun _ eB=>Rm rfl (Rc rfl (Rm rfl (Sp 11 rfl ?_ ?_)))) <;> clear H
 ·intro h11 a H
  try have oD:=dT h11
  refine kH H (aQ h11 rfl (Pt h11 rfl (ak eB rfl (Ct rfl rfl (SC (bq K3 rfl (SQ fun _ dW=>SR fun _ fC=>Rm rfl (Kz fC (SB (SR fun _ gQ=>Rc rfl (ak gQ rfl (Cd rfl ?_ ?_)))))))))))) <;> clear H eB K3 fC gQ
  ·intro h22 a H
   try have iZ:=dT h22
   refine kP H (SC (bq dW rfl (SR fun _ fM=>Rm rfl (Rm rfl (Rm rfl (Ra rfl (Ra rfl (ak fM rfl ?_))))))));clear H dW fM;intro a H;refine bW ?_;refine (eY H results268 (.cons (aT H rfl) (.cons (aT H rfl) (.cons (aT H rfl) .nil))) ?_).1
   first|(exfalso;omega)|exact H.rt ⟨by simp only [ji];repeat (first|rw [au (by omega)]|rw [ah (by omega)]),rfl⟩
  intro h22 a H
  try have iZ:=dF h22
  refine kP H (SR fun _ gV=>Rc rfl (ak gV rfl (Cd rfl ?_ ?_))) <;> clear H gV
  ·intro fB a H
   try have mU:=dT fB
   refine kP H (SC (bq dW rfl (SR fun _ jo=>Rm rfl (Rm rfl (Rm rfl (Ra rfl (Ra rfl (ak jo rfl ?_))))))));clear H dW jo;intro a H;refine bW ?_;refine (eY H results268 (.cons (aT H rfl) (.cons (aT H rfl) (.cons (aT H rfl) .nil))) ?_).1
   first|(exfalso;omega)|exact H.rt ⟨by simp only [ji];repeat (first|rw [au (by omega)]|rw [ah (by omega)]),rfl⟩
  intro fB a H
  try have mU:=dF fB
  refine kP H (SR fun _ lD=>Rc rfl (ak lD rfl (Cd rfl ?_ ?_))) <;> clear H lD
  ·intro jE a H
   try have p26:=dT jE
   refine kP H (SC (bq dW rfl (SR fun _ kX=>Rm rfl (Rm rfl (Rm rfl (Ra rfl (Ra rfl (ak kX rfl ?_))))))));clear H dW kX;intro a H;refine bW ?_;refine (eY H results268 (.cons (aT H rfl) (.cons (aT H rfl) (.cons (aT H rfl) .nil))) ?_).1
   first|(exfalso;omega)|exact H.rt ⟨by simp only [ji];repeat (first|rw [au (by omega)]|rw [ah (by omega)]),rfl⟩
  intro jE a H
  try have p26:=dF jE
  refine kP H (SR fun _ kC=>Rc rfl (ak kC rfl (Cd rfl ?_ ?_))) <;> clear H kC
  ·intro fQ a H
   try have p28:=dT fQ
   refine kP H (SC (bq dW rfl (SR fun _ lK=>Rm rfl (Rm rfl (Rm rfl (Ra rfl (Ra rfl (ak lK rfl ?_))))))));clear H dW lK;intro a H;refine bW ?_;refine (eY H results268 (.cons (aT H rfl) (.cons (aT H rfl) (.cons (aT H rfl) .nil))) ?_).1
   first|(exfalso;omega)|exact H.rt ⟨by simp only [ji];repeat (first|rw [au (by omega)]|rw [ah (by omega)]),rfl⟩
  intro fQ a H
  try have p28:=dF fQ
  refine kP H (Kc dW (SR fun _ lM=>Rm rfl (Rm rfl (Rm rfl (Ra rfl (Ra rfl (ak lM rfl ?_)))))));clear H dW lM;intro a H;refine bW ?_;refine (eY H results268 (.cons (aT H rfl) (.cons (aT H rfl) (.cons (aT H rfl) .nil))) ?_).1
  first|(exfalso;omega)|exact H.rt ⟨by simp only [ji];repeat (first|rw [au (by omega)]|rw [ah (by omega)]),rfl⟩
 intro h11 a H
 try have oD:=dF h11
 refine kH H (YM h11 rfl (YC h11 rfl (Pf h11 rfl (ak eB rfl (Cd rfl ?_ ?_))))) <;> clear H eB
 ·intro h8 a H
  try have p8:=dT h8
  refine kP H (SC (bq K3 rfl (SQ fun _ jL=>SR fun _ oL=>Rm rfl (Kz oL (SB (SR fun _ pI=>Rc rfl (ak pI rfl (Cd rfl ?_ ?_)))))))) <;> clear H K3 oL pI
  ·intro h22 a H
   try have iZ:=dT h22
   refine kP H (SC (bq jL rfl (SR fun _ qm=>Rm rfl (Rm rfl (Rm rfl (Ra rfl (Ra rfl (ak qm rfl ?_))))))));clear H jL qm;intro a H;refine bW ?_;refine (eY H results268 (.cons (aT H rfl) (.cons (aT H rfl) (.cons (aT H rfl) .nil))) ?_).1
   first|(exfalso;omega)|exact H.rt ⟨by simp only [ji];repeat (first|rw [au (by omega)]|rw [ah (by omega)]),rfl⟩
  intro h22 a H
  try have iZ:=dF h22
  refine kP H (SR fun _ qJ=>Rc rfl (ak qJ rfl (Cd rfl ?_ ?_))) <;> clear H qJ
  ·intro fB a H
   try have mU:=dT fB
   refine kP H (SC (bq jL rfl (SR fun _ qo=>Rm rfl (Rm rfl (Rm rfl (Ra rfl (Ra rfl (ak qo rfl ?_))))))));clear H jL qo;intro a H;refine bW ?_;refine (eY H results268 (.cons (aT H rfl) (.cons (aT H rfl) (.cons (aT H rfl) .nil))) ?_).1
   first|(exfalso;omega)|exact H.rt ⟨by simp only [ji];repeat (first|rw [au (by omega)]|rw [ah (by omega)]),rfl⟩
  intro fB a H
  try have mU:=dF fB
  refine kP H (SR fun _ qK=>Rc rfl (ak qK rfl (Cd rfl ?_ ?_))) <;> clear H qK
  ·intro jE a H
   try have p26:=dT jE
   refine kP H (SC (bq jL rfl (SR fun _ uw=>Rm rfl (Rm rfl (Rm rfl (Ra rfl (Ra rfl (ak uw rfl ?_))))))));clear H jL uw;intro a H;refine bW ?_;refine (eY H results268 (.cons (aT H rfl) (.cons (aT H rfl) (.cons (aT H rfl) .nil))) ?_).1
   first|(exfalso;omega)|exact H.rt ⟨by simp only [ji];repeat (first|rw [au (by omega)]|rw [ah (by omega)]),rfl⟩
  intro jE a H
  try have p26:=dF jE
  refine kP H (SR fun _ rH=>Rc rfl (ak rH rfl (Cd rfl ?_ ?_))) <;> clear H rH
  ·intro fQ a H
   try have p28:=dT fQ
   refine kP H (SC (bq jL rfl (SR fun _ wI=>Rm rfl (Rm rfl (Rm rfl (Ra rfl (Ra rfl (ak wI rfl ?_))))))));clear H jL wI;intro a H;refine bW ?_;refine (eY H results268 (.cons (aT H rfl) (.cons (aT H rfl) (.cons (aT H rfl) .nil))) ?_).1
   first|(exfalso;omega)|exact H.rt ⟨by simp only [ji];repeat (first|rw [au (by omega)]|rw [ah (by omega)]),rfl⟩
  intro fQ a H
  try have p28:=dF fQ
  refine kP H (Kc jL (SR fun _ Az=>Rm rfl (Rm rfl (Rm rfl (Ra rfl (Ra rfl (ak Az rfl ?_)))))));clear H jL Az;intro a H;refine bW ?_;refine (eY H results268 (.cons (aT H rfl) (.cons (aT H rfl) (.cons (aT H rfl) .nil))) ?_).1
  first|(exfalso;omega)|exact H.rt ⟨by simp only [ji];repeat (first|rw [au (by omega)]|rw [ah (by omega)]),rfl⟩
 intro h8 a H
 try have p8:=dF h8
 refine kP H (SR fun _ AA=>Rm rfl (Rc rfl (ak AA rfl (Cd rfl ?_ ?_)))) <;> clear H AA
 ·intro iY a H
  try have qd:=dT iY
  refine kP H (SC (bq K3 rfl (SQ fun _ pJ=>SR fun _ Cg=>Rm rfl (Kz Cg (SB (SR fun _ AB=>Rc rfl (ak AB rfl (Cd rfl ?_ ?_)))))))) <;> clear H K3 Cg AB
  ·intro h22 a H
   try have iZ:=dT h22
   refine kP H (SC (bq pJ rfl (SR fun _ Fa=>Rm rfl (Rm rfl (Rm rfl (Ra rfl (Ra rfl (ak Fa rfl ?_))))))));clear H pJ Fa;intro a H;refine bW ?_;refine (eY H results268 (.cons (aT H rfl) (.cons (aT H rfl) (.cons (aT H rfl) .nil))) ?_).1
   first|(exfalso;omega)|exact H.rt ⟨by simp only [ji];repeat (first|rw [au (by omega)]|rw [ah (by omega)]),rfl⟩
  intro h22 a H
  try have iZ:=dF h22
  refine kP H (SR fun _ DT=>Rc rfl (ak DT rfl (Cd rfl ?_ ?_))) <;> clear H DT
  ·intro fB a H
   try have mU:=dT fB
   refine kP H (SC (bq pJ rfl (SR fun _ Fb=>Rm rfl (Rm rfl (Rm rfl (Ra rfl (Ra rfl (ak Fb rfl ?_))))))));clear H pJ Fb;intro a H;refine bW ?_;refine (eY H results268 (.cons (aT H rfl) (.cons (aT H rfl) (.cons (aT H rfl) .nil))) ?_).1
   first|(exfalso;omega)|exact H.rt ⟨by simp only [ji];repeat (first|rw [au (by omega)]|rw [ah (by omega)]),rfl⟩
  intro fB a H
  try have mU:=dF fB
  refine kP H (SR fun _ DU=>Rc rfl (ak DU rfl (Cd rfl ?_ ?_))) <;> clear H DU
  ·intro jE a H
   try have p26:=dT jE
   refine kP H (SC (bq pJ rfl (SR fun _ JA=>Rm rfl (Rm rfl (Rm rfl (Ra rfl (Ra rfl (ak JA rfl ?_))))))));clear H pJ JA;intro a H;refine bW ?_;refine (eY H results268 (.cons (aT H rfl) (.cons (aT H rfl) (.cons (aT H rfl) .nil))) ?_).1
   first|(exfalso;omega)|exact H.rt ⟨by simp only [ji];repeat (first|rw [au (by omega)]|rw [ah (by omega)]),rfl⟩
  intro jE a H
  try have p26:=dF jE
  refine kP H (SR fun _ Ml=>Rc rfl (ak Ml rfl (Cd rfl ?_ ?_))) <;> clear H Ml
  ·intro fQ a H
   try have p28:=dT fQ
   refine kP H (SC (bq pJ rfl (SR fun _ Mq=>Rm rfl (Rm rfl (Rm rfl (Ra rfl (Ra rfl (ak Mq rfl ?_))))))));clear H pJ Mq;intro a H;refine bW ?_;refine (eY H results268 (.cons (aT H rfl) (.cons (aT H rfl) (.cons (aT H rfl) .nil))) ?_).1
   first|(exfalso;omega)|exact H.rt ⟨by simp only [ji];repeat (first|rw [au (by omega)]|rw [ah (by omega)]),rfl⟩
  intro fQ a H
  try have p28:=dF fQ
  refine kP H (Kc pJ (SR fun _ V8=>Rm rfl (Rm rfl (Rm rfl (Ra rfl (Ra rfl (ak V8 rfl ?_)))))));clear H pJ V8;intro a H;refine bW ?_;refine (eY H results268 (.cons (aT H rfl) (.cons (aT H rfl) (.cons (aT H rfl) .nil))) ?_).1
  first|(exfalso;omega)|exact H.rt ⟨by simp only [ji];repeat (first|rw [au (by omega)]|rw [ah (by omega)]),rfl⟩
 intro iY a H
 try have qd:=dF iY
 refine kP H (SR fun _ V9=>Rm rfl (Rc rfl (ak V9 rfl (Cd rfl ?_ ?_)))) <;> clear H V9
 ·intro h18 a H
  try have Dl:=dT h18
  refine kP H (SC (bq K3 rfl (SQ fun _ AJ=>SR fun _ Wd=>Rm rfl (Kz Wd (SB (SR fun _ Wh=>Rc rfl (ak Wh rfl (Cd rfl ?_ ?_)))))))) <;> clear H K3 Wd Wh
  ·intro h22 a H
   try have iZ:=dT h22
   refine kP H (SC (bq AJ rfl (SR fun _ Wi=>Rm rfl (Rm rfl (Rm rfl (Ra rfl (Ra rfl (ak Wi rfl ?_))))))));clear H AJ Wi;intro a H;refine bW ?_;refine (eY H results268 (.cons (aT H rfl) (.cons (aT H rfl) (.cons (aT H rfl) .nil))) ?_).1
   first|(exfalso;omega)|exact H.rt ⟨by simp only [ji];repeat (first|rw [au (by omega)]|rw [ah (by omega)]),rfl⟩
  intro h22 a H
  try have iZ:=dF h22
  refine kP H (SR fun _ Wj=>Rc rfl (ak Wj rfl (Cd rfl ?_ ?_))) <;> clear H Wj
  ·intro fB a H
   try have mU:=dT fB
   refine kP H (SC (bq AJ rfl (SR fun _ Wm=>Rm rfl (Rm rfl (Rm rfl (Ra rfl (Ra rfl (ak Wm rfl ?_))))))));clear H AJ Wm;intro a H;refine bW ?_;refine (eY H results268 (.cons (aT H rfl) (.cons (aT H rfl) (.cons (aT H rfl) .nil))) ?_).1
   first|(exfalso;omega)|exact H.rt ⟨by simp only [ji];repeat (first|rw [au (by omega)]|rw [ah (by omega)]),rfl⟩
  intro fB a H
  try have mU:=dF fB
  refine kP H (SR fun _ Wn=>Rc rfl (ak Wn rfl (Cd rfl ?_ ?_))) <;> clear H Wn
  ·intro jE a H
   try have p26:=dT jE
   refine kP H (SC (bq AJ rfl (SR fun _ Wo=>Rm rfl (Rm rfl (Rm rfl (Ra rfl (Ra rfl (ak Wo rfl ?_))))))));clear H AJ Wo;intro a H;refine bW ?_;refine (eY H results268 (.cons (aT H rfl) (.cons (aT H rfl) (.cons (aT H rfl) .nil))) ?_).1
   first|(exfalso;omega)|exact H.rt ⟨by simp only [ji];repeat (first|rw [au (by omega)]|rw [ah (by omega)]),rfl⟩
  intro jE a H
  try have p26:=dF jE
  refine kP H (SR fun _ Wp=>Rc rfl (ak Wp rfl (Cd rfl ?_ ?_))) <;> clear H Wp
  ·intro fQ a H
   try have p28:=dT fQ
   refine kP H (SC (bq AJ rfl (SR fun _ Wq=>Rm rfl (Rm rfl (Rm rfl (Ra rfl (Ra rfl (ak Wq rfl ?_))))))));clear H AJ Wq;intro a H;refine bW ?_;refine (eY H results268 (.cons (aT H rfl) (.cons (aT H rfl) (.cons (aT H rfl) .nil))) ?_).1
   first|(exfalso;omega)|exact H.rt ⟨by simp only [ji];repeat (first|rw [au (by omega)]|rw [ah (by omega)]),rfl⟩
  intro fQ a H
  try have p28:=dF fQ
  refine kP H (Kc AJ (SR fun _ Ws=>Rm rfl (Rm rfl (Rm rfl (Ra rfl (Ra rfl (ak Ws rfl ?_)))))));clear H AJ Ws;intro a H;refine bW ?_;refine (eY H results268 (.cons (aT H rfl) (.cons (aT H rfl) (.cons (aT H rfl) .nil))) ?_).1
  first|(exfalso;omega)|exact H.rt ⟨by simp only [ji];repeat (first|rw [au (by omega)]|rw [ah (by omega)]),rfl⟩
 intro h18 a H
 try have Dl:=dF h18
 refine kP H (SC (bq K3 rfl (SQ fun _ AL=>SR fun _ Wt=>Rm rfl (Kz Wt (SB (SR fun _ Wu=>Rc rfl (ak Wu rfl (Cd rfl ?_ ?_)))))))) <;> clear H K3 Wt Wu
 ·intro h22 a H
  try have iZ:=dT h22
  refine kP H (SC (bq AL rfl (SR fun _ Wv=>Rm rfl (Rm rfl (Rm rfl (Ra rfl (Ra rfl (ak Wv rfl ?_))))))));clear H AL Wv;intro a H;refine bW ?_;refine (eY H results268 (.cons (aT H rfl) (.cons (aT H rfl) (.cons (aT H rfl) .nil))) ?_).1
  first|(exfalso;omega)|exact H.rt ⟨by simp only [ji];repeat (first|rw [au (by omega)]|rw [ah (by omega)]),rfl⟩
 intro h22 a H
 try have iZ:=dF h22
 refine kP H (SR fun _ Ww=>Rc rfl (ak Ww rfl (Cd rfl ?_ ?_))) <;> clear H Ww
 ·intro fB a H
  try have mU:=dT fB
  refine kP H (SC (bq AL rfl (SR fun _ Wx=>Rm rfl (Rm rfl (Rm rfl (Ra rfl (Ra rfl (ak Wx rfl ?_))))))));clear H AL Wx;intro a H;refine bW ?_;refine (eY H results268 (.cons (aT H rfl) (.cons (aT H rfl) (.cons (aT H rfl) .nil))) ?_).1
  first|(exfalso;omega)|exact H.rt ⟨by simp only [ji];repeat (first|rw [au (by omega)]|rw [ah (by omega)]),rfl⟩
 intro fB a H
 try have mU:=dF fB
 refine kP H (SR fun _ Wy=>Rc rfl (ak Wy rfl (Cd rfl ?_ ?_))) <;> clear H Wy
 ·intro jE a H
  try have p26:=dT jE
  refine kP H (SC (bq AL rfl (SR fun _ Wz=>Rm rfl (Rm rfl (Rm rfl (Ra rfl (Ra rfl (ak Wz rfl ?_))))))));clear H AL Wz;intro a H;refine bW ?_;refine (eY H results268 (.cons (aT H rfl) (.cons (aT H rfl) (.cons (aT H rfl) .nil))) ?_).1
  first|(exfalso;omega)|exact H.rt ⟨by simp only [ji];repeat (first|rw [au (by omega)]|rw [ah (by omega)]),rfl⟩
 intro jE a H
 try have p26:=dF jE
 refine kP H (SR fun _ WA=>Rc rfl (ak WA rfl (Cd rfl ?_ ?_))) <;> clear H WA
 ·intro fQ a H
  try have p28:=dT fQ
  refine kP H (SC (bq AL rfl (SR fun _ WB=>Rm rfl (Rm rfl (Rm rfl (Ra rfl (Ra rfl (ak WB rfl ?_))))))));clear H AL WB;intro a H;refine bW ?_;refine (eY H results268 (.cons (aT H rfl) (.cons (aT H rfl) (.cons (aT H rfl) .nil))) ?_).1
  first|(exfalso;omega)|exact H.rt ⟨by simp only [ji];repeat (first|rw [au (by omega)]|rw [ah (by omega)]),rfl⟩
 intro fQ a H
 try have p28:=dF fQ
 refine kP H (Kc AL (SR fun _ WC=>Rm rfl (Rm rfl (Rm rfl (Ra rfl (Ra rfl (ak WC rfl ?_)))))));clear H AL WC;intro a H;refine bW ?_;refine (eY H results268 (.cons (aT H rfl) (.cons (aT H rfl) (.cons (aT H rfl) .nil))) ?_).1
 first|(exfalso;omega)|exact H.rt ⟨by simp only [ji];repeat (first|rw [au (by omega)]|rw [ah (by omega)]),rfl⟩
def gK (s:ByteArray) (i:Nat):Int:=if h:i < s.size then (s[i].toNat:Int) else 0
theorem lN {s:ByteArray} {i:Nat} (h:i < s.size):gK s i=(s[i].toNat:Int):=by simp [gK,h]
def qx (s:ByteArray) (at_ n:Nat):(fuel k:Nat)→(low high p:Int)→Int × Nat × Bool
 | 0,k,_,_,p=>(p,k,true)
 | f+1,k,low,high,p =>
  if n≤k then (p,k,true)
  else if s.size≤at_+k∨gK s (at_+k) < low∨high < gK s (at_+k) then (0,k,false)
  else qx s at_ n f (k+1) 128 191 (wN .or .i64 (IntKind.i64.wrap (p*2 ^ 6)) (wN .and .i64 (gK s (at_+k)) 63))
def kZ (s:ByteArray) (at_:Nat):Int × Nat × Bool :=
 let b:=gK s at_
 let t:=ji b
 if t.2.2=0 then (0,0,false) else if t.2.2=1 then (b,1,true)
 else qx s at_ t.2.2.toNat 4 1 t.1 t.2.1 (wN .and .i64 b ((127:Int).fdiv (2 ^ t.2.2.toNat)))
theorem Vq (n:UInt8):IntKind.i64.wrap (n.toNat:Int)=(n.toNat:Int):=Gg (by omega) (by have:=n.toNat_lt;omega)
set_option maxHeartbeats 1000000 in
theorem afK (G:GH) (w0:World) (hG:Hold G w0) (s:ByteArray) (i:Nat) (hi:i < s.size) (hs:s.size < 4611686018427387904) :
  Calls prog 249 #[.string s,.int .i64 i] w0 (aZ w0 G fun v G'=>v=.tuple #[.int .i64 (kZ s i).1,.int .i64 (kZ s i).2.1,.bool (kZ s i).2.2]∧G=G'):=by
 have hb:=lN hi;obtain ⟨n,hn⟩:∃ n:Nat,(ji (gK s i)).2.2=(n:Int):=⟨(ji (gK s i)).2.2.toNat,by have:=Vi (gK s i);omega⟩
 have hn4:n≤4:=by have:=Vi (gK s i);omega
 refine eN [(0,_),(1,_)] func249 rfl ntmps249 rfl rfl hG ?_;intro a H;refine kP H (SR fun _ K1=>Ra rfl (Ra rfl (ak K1 rfl (SR fun _ K2=>Rm rfl (Rm rfl ?_)))));clear H K1;intro a H;refine qh _ iB H wn rfl rfl rfl (by first|assumption|omega) rfl ?_;clear H;intro a H;refine kH H (Ra rfl ?_);clear H;intro a H;rw [← hb] at H;refine K2 _ _ ?_;clear K2;refine kP H (SR fun _ K3=>Rm rfl ?_);clear H;intro a H;refine s_call ahZ H wn rfl (arj _ _ H.ro _) rfl ?_;clear H;rintro v16 _ a w ⟨rfl,rfl⟩ - H;refine kH H (Rm rfl ?_);clear H;intro a H;(iterate 3 refine lq H wn rfl rfl rfl ?_;clear H;intro a H);refine kH H (Ra rfl (Ra rfl (ak K3 rfl (SQ fun _ K4=>SR fun _ K5=>Rm rfl (Kz K5 (SB (SR fun _ K6=>Rc rfl (ak K6 rfl (Cd rfl ?_ ?_))))))))) <;> clear H K3 K5 K6
 ·intro h21 a H
  try have wB:=dT h21
  refine kP H (SR fun _ K7=>Ra rfl (Ra rfl (ak K7 rfl ?_)));clear H K7;intro a H;refine bW ?_;skip;refine (eY H results249 (.cons (aT H rfl) (.cons (aT H rfl) (.cons (aT H rfl) .nil))) ?_).1;exact H.rt ⟨by simp [kZ,wB],rfl⟩
 intro h21 a H
 try have wB:=dF h21
 refine kP H (SR fun _ K8=>Rc rfl (ak K8 rfl (Cd rfl ?_ ?_))) <;> clear H K8
 ·intro h23 a H
  try have BI:=dT h23
  refine kP H (SR fun _ K9=>Rm rfl ?_);clear H;intro a H;refine BL (gK s i) lu LP H wn rfl (by rw [hb];exact Vq _) rfl ?_;clear H;intro a H;refine kH H (Ra rfl (Ra rfl (ak K9 rfl ?_)));clear H K9;intro a H;refine bW ?_;skip;refine (eY H results249 (.cons (aT H rfl) (.cons (aT H rfl) (.cons (aT H rfl) .nil))) ?_).1;exact H.rt ⟨by simp [kZ,wB,BI],rfl⟩
 intro h23 a H
 try have BI:=dF h23
 refine kP H (Kc K4 (SR fun _ aR=>Rm rfl ?_));clear H K4;intro a H;refine BL (gK s i) lu LP H wn rfl (by rw [hb];exact Vq _) rfl ?_;clear H;intro a H;refine kH H (Rm rfl ?_);clear H;intro a H;refine OT n H wn rfl rfl (by rw [hn]) (by show n≤64;omega) rfl ?_;clear H;intro a H;refine OJ rfl H wn rfl rfl rfl ?_;clear H;intro a H;refine kH H (ak aR rfl (SQ fun _ bQ=>SR fun _ bY=>ak bY rfl (SB ?_)));clear H aR bY;intro a H;skip;refine eU (ι:=Nat × Int × Int × Int) (Tc:=[(0,_),(1,_),(10,_)]) (Lc:=[]) (fun gh=>[(4,.int .i64 gh.2.2.2),(5,.int .i64 (gh.1:Int)),(8,.int .u8 gh.2.1),(9,.int .u8 gh.2.2.1)]) (fun gh=>[]) (fun gh=>G) (fun gh=>gh.1≤4∧kZ s i=qx s i n (5 - gh.1) gh.1 gh.2.1 gh.2.2.1 gh.2.2.2) (fun gh=>5 - gh.1) ((1,_,_,_)) (by exact (H).sub ⟨rfl,rfl,rfl,rfl,rfl,rfl,rfl,aC⟩) ?_ ?_
 ·refine ⟨by omega,?_⟩;simp only [kZ,hn];rw [ah (by omega),ah (by omega)];rfl
 clear H;rintro ⟨k,low,high,p⟩ a w hI H;dsimp only at hI H;obtain ⟨hk,hdec⟩:=hI;dsimp only [lca,bJ] at H;refine kP H (SQ fun _ cZ=>SR fun _ dG=>Rm rfl (Rm rfl (Rc rfl (Kz dG (Cd rfl ?_ ?_))))) <;> clear H dG
 ·intro fZ a H
  try have p34:=dT fZ
  refine kP H (Kc cZ (SQ fun _ dZ=>SB (SQ fun _ eB=>SR fun _ dW=>Rm rfl (Rm rfl (Rd rfl (Rm rfl (Rv iB rfl (Rc rfl (Rm rfl (Sp 43 rfl ?_ ?_)))))))))) <;> clear H cZ
  ·intro h43 a H
   try have p43:=dT h43
   refine kH H (bF h43 rfl (aQ h43 rfl (aQ h43 rfl (Pt h43 rfl (Rm rfl (bF rfl rfl (aQ rfl rfl (aQ rfl rfl (Pt rfl rfl (Kz dW (Ct rfl rfl (SR fun _ fC=>Rm rfl (Ra rfl (Ra rfl (ak fC rfl ?_)))))))))))))));clear H dW fC;intro a H;refine bW ?_
   have hfin:kZ s i=(if n≤k then (p,k,true) else (0,k,false)):=by
    rw [hdec];have e:5 - k=(4 - k)+1:=by omega
    rw [e,qx]
    by_cases hk2:n≤k
    ·rw [au hk2,au hk2]
    rw [ah hk2,ah hk2,au (by first|omega|(rw [lN (by omega)];omega))]
   refine (eY H results249 (.cons (aT H rfl) (.cons (aT H rfl) (.cons (aT H rfl) .nil))) ?_).1;exact H.rt ⟨by rw [hfin];first|rw [au (by omega)]|rw [ah (by omega)],rfl⟩
  intro h43 a H
  try have p43:=dF h43
  refine kH H (YM h43 rfl (YM h43 rfl (YM h43 rfl ?_)));clear H;intro a H;refine Lj _ H (wg H rfl rfl h43) rfl rfl rfl (by omega) (by omega) rfl ?_;clear H;intro a H;refine qh _ iB H (wg H rfl rfl h43) rfl rfl rfl (by first|assumption|omega) rfl ?_;clear H;intro a H;refine kH H (YM h43 rfl (YC h43 rfl (Pf h43 rfl (Rm rfl (Sp 52 rfl ?_ ?_))))) <;> clear H
  ·intro oQ a H
   try have p52:=dT oQ
   refine kH H (bF oQ rfl (aQ oQ rfl (aQ oQ rfl (Pt oQ rfl (Kz dW (Ct rfl rfl (SR fun _ gQ=>Rm rfl (Ra rfl (Ra rfl (ak gQ rfl ?_))))))))));clear H dW gQ;intro a H;refine bW ?_
   have hfin:kZ s i=(if n≤k then (p,k,true) else (0,k,false)):=by
    rw [hdec];have e:5 - k=(4 - k)+1:=by omega
    rw [e,qx]
    by_cases hk2:n≤k
    ·rw [au hk2,au hk2]
    rw [ah hk2,ah hk2,au (by first|omega|(rw [lN (by omega)];omega))]
   refine (eY H results249 (.cons (aT H rfl) (.cons (aT H rfl) (.cons (aT H rfl) .nil))) ?_).1;exact H.rt ⟨by rw [hfin];first|rw [au (by omega)]|rw [ah (by omega)],rfl⟩
  intro oQ a H
  try have p52:=dF oQ
  refine kH H (YM oQ rfl (YM oQ rfl (YM oQ rfl ?_)));clear H;intro a H;refine Lj _ H (wg H rfl rfl oQ) rfl rfl rfl (by omega) (by omega) rfl ?_;clear H;intro a H;refine qh _ iB H (wg H rfl rfl oQ) rfl rfl rfl (by first|assumption|omega) rfl ?_;clear H;intro a H;refine kH H (YM oQ rfl (YC oQ rfl (Pf oQ rfl (Kz dW (Cd rfl ?_ ?_))))) <;> clear H dW
  ·intro jT a H
   try have p60:=dT jT
   refine kP H (SR fun _ fM=>Rm rfl (Ra rfl (Ra rfl (ak fM rfl ?_))));clear H fM;intro a H;refine bW ?_
   have hfin:kZ s i=(if n≤k then (p,k,true) else (0,k,false)):=by
    rw [hdec];have e:5 - k=(4 - k)+1:=by omega
    rw [e,qx]
    by_cases hk2:n≤k
    ·rw [au hk2,au hk2]
    rw [ah hk2,ah hk2,au (by first|omega|(rw [lN (by omega)];omega))]
   refine (eY H results249 (.cons (aT H rfl) (.cons (aT H rfl) (.cons (aT H rfl) .nil))) ?_).1;exact H.rt ⟨by rw [hfin];first|rw [au (by omega)]|rw [ah (by omega)],rfl⟩
  intro jT a H
  try have p60:=dF jT
  refine kP H (Kc eB (SR fun _ gV=>Rm rfl ?_));clear H eB;intro a H;refine apP _ H wn rfl rfl rfl (by decide) rfl ?_;clear H;intro a H;refine kH H (Rm rfl (Rm rfl (Rm rfl (Rd rfl ?_))));clear H;intro a H;refine qh _ iB H wn rfl rfl rfl (by first|assumption|omega) rfl ?_;clear H;intro a H;refine BL (gK s (i+k)) lu LP H wn rfl (by rw [lN (by omega)];exact Vq _) rfl ?_;clear H;intro a H;(iterate 2 refine OJ rfl H wn rfl rfl rfl ?_;clear H;intro a H);refine kH H (ak gV rfl (SC (Ra rfl (bq dZ rfl (SC (Rm rfl (Rd rfl (Ra rfl ?_))))))));clear H gV dZ;intro a H;refine aD ?_;refine dD ((k+1,128,191,wN .or .i64 (IntKind.i64.wrap (p*2 ^ 6)) (wN .and .i64 (gK s (i+k)) 63))) (by exact (H).sub ⟨rfl,rfl,rfl,rfl,rfl,rfl,rfl,aC⟩) ?_
  (try dsimp only);refine ⟨by omega,?_⟩
  have e:5 - k=(5 - (k+1))+1:=by omega
  rw [hdec,e,qx,ah (by omega),lN (by omega),ah (by omega)]
 intro fZ a H
 try have p34:=dF fZ
 refine dV ?_;refine bQ _ _ ?_;clear bQ;refine kP H (SR fun _ jo=>Rm rfl (Rm rfl (Ra rfl (Ra rfl (ak jo rfl ?_)))));clear H jo;intro a H;refine bW ?_
 have hfin:kZ s i=(if n≤k then (p,k,true) else (0,k,false)):=by
  rw [hdec];have e:5 - k=(4 - k)+1:=by omega
  rw [e,qx]
  by_cases hk2:n≤k
  ·rw [au hk2,au hk2]
  rw [ah hk2,ah hk2,au (by first|omega|(rw [lN (by omega)];omega))]
 refine (eY H results249 (.cons (aT H rfl) (.cons (aT H rfl) (.cons (aT H rfl) .nil))) ?_).1;exact H.rt ⟨by rw [hfin];first|rw [au (by omega)]|rw [ah (by omega)],rfl⟩
theorem XI (s:ByteArray) (at_ n:Nat):∀ (f k:Nat) (low high p:Int),n≤k+f→k≤n→k≤(qx s at_ n f k low high p).2.1∧(qx s at_ n f k low high p).2.1≤n∧((qx s at_ n f k low high p).2.2=true→at_+k≤s.size→at_+(qx s at_ n f k low high p).2.1≤s.size)
 | 0,k,low,high,p,h1,h2=>by simp only [qx];omega
 | f+1,k,low,high,p,h1,h2=>by
  unfold qx
  split
  ·simp only [];omega
  split
  ·simp only [];omega
  have ih:=XI s at_ n f (k+1) 128 191 (wN .or .i64 (IntKind.i64.wrap (p*2 ^ 6)) (wN .and .i64 (gK s (at_+k)) 63)) (by omega) (by omega);refine ⟨by have:=ih.1;omega,ih.2.1,fun h3 h4=>ih.2.2 h3 (by omega)⟩
theorem MV (s:ByteArray) (i:Nat) (hi:i < s.size):(kZ s i).2.1≤4∧((kZ s i).2.2=true→1≤(kZ s i).2.1∧i+(kZ s i).2.1≤s.size):=by
 have ht:=Vi (gK s i)
 unfold kZ
 simp only []
 split
 ·simp
 split
 ·simp;omega
 have:=XI s i (ji (gK s i)).2.2.toNat 4 1 (ji (gK s i)).1 (ji (gK s i)).2.1 (wN .and .i64 (gK s i) ((127:Int).fdiv (2 ^ (ji (gK s i)).2.2.toNat))) (by omega) (by omega);refine ⟨by omega,fun h=>⟨by omega,this.2.2 h (by omega)⟩⟩
def tC (s:ByteArray) (i:Nat):Int :=
 if h:i < s.size then (if h2:(kZ s i).2.2=true then tC s (i+(kZ s i).2.1) else i) else -1
 termination_by s.size - i
 decreasing_by have:=(MV s i h).2 h2;omega
theorem ajv (G:GH) (w0:World) (hG:Hold G w0) (s:ByteArray) (hs:s.size < 4611686018427387904) :
  Calls prog 225 #[.string s] w0 (aZ w0 G fun v G'=>v=.int .i64 (tC s 0)∧G=G'):=by
 refine eN [(0,_)] func225 rfl ntmps225 rfl rfl hG ?_;intro a H;refine kP H (SR fun _ K1=>ak K1 rfl (SQ fun _ K2=>SR fun _ K3=>ak K3 rfl (SB ?_)));clear H K1 K3;intro a H;skip;refine eU (ι:=Nat) (Tc:=[(0,_)]) (Lc:=[]) (fun gh=>[(3,.int .i64 (gh:Int))]) (fun gh=>[]) (fun gh=>G) (fun gh=>gh≤s.size∧tC s 0=tC s gh) (fun gh=>s.size - gh) (0) (by exact (H).sub ⟨rfl,rfl,aC⟩) ?_ ?_
 ·exact ⟨by omega,rfl⟩
 clear H;intro i a w hI H;obtain ⟨hk,hf⟩:=hI;dsimp only [lca,bJ] at H;refine kP H (SQ fun _ K4=>SR fun _ K5=>Rm rfl (Rm rfl (Rv iB rfl (Rc rfl (Kz K5 (Cd rfl ?_ ?_)))))) <;> clear H K5
 ·intro h10 a H
  try have kV:=dT h10
  refine kP H (Kc K4 (SB (SR fun _ K6=>Rm rfl (Rm rfl ?_))));clear H K4;intro a H;refine s_call ahO H wn rfl (afK _ _ H.ro s i (by omega) hs) rfl ?_;clear H;rintro v14 _ a w ⟨rfl,rfl⟩ - H;have hd:=MV s i (by omega);refine kH H (Rm rfl ?_);clear H;intro a H;(iterate 3 refine lq H wn rfl rfl rfl ?_;clear H;intro a H);refine kH H (Ra rfl (Ra rfl (ak K6 rfl (SQ fun _ K7=>SR fun _ K8=>Rm rfl (Rn rfl (Kz K8 (Cd rfl ?_ ?_))))))) <;> clear H K6 K8
  ·intro h19 a H
   try have uf:=dT h19
   exact kP H (SR fun _ K9=>Rm rfl (ak K9 rfl (LR results225 rfl fun H=>H.rt ⟨by rw [hf,tC,dif_pos (by omega),dif_neg (by simpa using h19)],rfl⟩)))
  intro h19 a H
  try have uf:=dF h19
  refine kP H (Kc K7 (SC (Rm rfl (Rm rfl (Rd rfl (Ra rfl ?_))))));clear H K7;intro a H;refine aD ?_;refine Uk ((i+(kZ s i).2.1)) (by exact (H).sub ⟨rfl,rfl,aC⟩) ?_ ?_
  ·have h1:(kZ s i).2.2=true:=by simpa using h19
   have h2:=hd.2 h1;refine ⟨by omega,?_⟩;rw [hf,tC,dif_pos (by omega),dif_pos h1]
  have h1:(kZ s i).2.2=true:=by simpa using h19
  have h2:=hd.2 h1
  omega
 intro h10 a H
 try have kV:=dF h10
 refine dV ?_;refine K2 _ _ ?_;clear K2;exact kP H (SR fun _ aR=>ak aR rfl (LR results225 rfl fun H=>H.rt ⟨by rw [hf,tC,dif_neg (by omega)],rfl⟩))
def rG (s:ByteArray):Bool:=decide (tC s 0 < 0)
theorem LW (G:GH) (w0:World) (hG:Hold G w0) (s:ByteArray) (hs:s.size < 4611686018427387904) :
  Calls prog 193 #[.string s] w0 (aZ w0 G fun v G'=>v=.bool (rG s)∧G=G'):=by
 refine eN [(0,_)] func193 rfl ntmps193 rfl rfl hG ?_;intro a H;refine kP H (SR fun _ K1=>ak K1 rfl (SR fun _ K2=>Rm rfl ?_));clear H K1;intro a H;refine s_call ahE H wn rfl (ajv _ _ H.ro s hs) rfl ?_;clear H;rintro v4 _ a w ⟨rfl,rfl⟩ - H;exact kH H (Rc rfl (ak K2 rfl (LR results193 rfl fun H=>H.rt ⟨rfl,rfl⟩)))
def qw (s:ByteArray) (i:Nat):Nat :=
 if i < s.size then (if wN .and .u8 (gK s i) 192=128 then 0 else 1)+qw s (i+1) else 0
 termination_by s.size - i
theorem Xu (s:ByteArray):∀ (n i:Nat),s.size - i=n→qw s i≤n
 | 0,i,h=>by rw [qw,ah (by omega)];exact bM _
 | n+1,i,h=>by
  have ih:=Xu s n (i+1) (by omega);rw [qw,au (by omega)]
  split <;> omega
def tq (s:ByteArray):Nat:=if rG s then qw s 0 else 0
def Jq (s:ByteArray):Int:=if rG s then 0 else 12
theorem MQ (s:ByteArray):tq s≤s.size:=by unfold tq;have:=Xu s s.size 0 (by omega);split <;> omega
theorem Xz (G:GH) (w0:World) (hG:Hold G w0) (s:ByteArray) (hs:s.size < 4611686018427387904) :
  Calls prog 197 #[.string s] w0 (aZ w0 G fun v G'=>v=.tuple #[vi (tq s),vi (Jq s)]∧G=G'):=by
 refine eN [(0,_)] func197 rfl ntmps197 rfl rfl hG ?_;intro a H;refine kP H (SR fun _ K1=>Ra rfl (ak K1 rfl (SQ fun _ K2=>SR fun _ K3=>Rm rfl ?_)));clear H K1;intro a H;refine s_call JW H wn rfl (LW _ _ H.ro s hs) rfl ?_;clear H;rintro v6 _ a w ⟨rfl,rfl⟩ - H;refine kH H (Rn rfl (Kz K3 (Cd rfl ?_ ?_))) <;> clear H K3
 ·intro h7 a H
  refine kP H (SR fun _ K4=>Ra rfl (ak K4 rfl ?_));clear H K4;intro a H;refine bW ?_;refine (eY H results197 (.cons (aT H rfl) (.cons (aT H rfl) .nil)) ?_).1;exact H.rt ⟨by simp [tq,Jq,show rG s=false by simpa using h7],rfl⟩
 intro h7 a H
 try have p7:=dF h7
 refine kP H (Kc K2 (SQ fun _ K5=>SR fun _ K6=>Rm rfl (Rv iB rfl (Rm rfl (Kz K6 (SB ?_))))));clear H K2 K6;intro a H;skip;refine eU (ι:=Nat × Nat) (Tc:=[(0,_),(9,_)]) (Lc:=[]) (fun gh=>[(2,vi gh.2),(10,vi gh.1)]) (fun gh=>[]) (fun gh=>G) (fun gh=>gh.1≤s.size∧gh.2≤gh.1∧gh.2+qw s gh.1=tq s) (fun gh=>s.size - gh.1) ((0,0)) (by exact (H).sub ⟨rfl,rfl,rfl,rfl,aC⟩) ?_ ?_
 ·exact ⟨by omega,by omega,by simp [tq,show rG s=true by simpa using h7]⟩
 clear H;rintro ⟨i,n⟩ a w hI H;dsimp only at hI H;obtain ⟨hk,hn,hf⟩:=hI;dsimp only [lca,bJ] at H;refine kP H (SR fun _ K7=>Rc rfl (Kz K7 (SQ fun _ K8=>Cd rfl ?_ ?_))) <;> clear H K7
 ·intro h11 a H
  try have oD:=dT h11
  refine kP H (Kc K8 (SQ fun _ K9=>SB (SR fun _ aR=>Rm rfl (ak aR rfl (SR fun _ bQ=>Rm rfl (Rm rfl ?_))))));clear H K8 aR;intro a H;refine qh _ iB H wn rfl rfl rfl (by first|assumption|omega) rfl ?_;clear H;intro a H;refine OJ rfl H wn rfl rfl rfl ?_;clear H;intro a H;refine kH H (Rc rfl (Kz bQ (Cd rfl ?_ ?_))) <;> clear H bQ
  ·intro eX a H
   try have nA:=dT eX
   refine kP H (SC (Rm rfl (Rd rfl (bq K9 rfl (SC (Rd rfl (Rm rfl ?_)))))));clear H K9;intro a H;refine aD ?_;refine dD ((i+1,n+1)) (by exact (H).sub ⟨rfl,rfl,rfl,rfl,aC⟩) ?_
   (try dsimp only);rw [← lN (by omega)] at nA;rw [qw,au (by omega),ah nA] at hf;exact ⟨by omega,by omega,by omega⟩
  intro eX a H
  try have nA:=dF eX
  refine kP H (Kc K9 (SC (Rd rfl (Rm rfl ?_))));clear H K9;intro a H;refine aD ?_;refine dD ((i+1,n)) (by exact (H).sub ⟨rfl,rfl,rfl,rfl,aC⟩) ?_
  (try dsimp only);rw [← lN (by omega),nV] at nA;rw [qw,au (by omega),au nA] at hf;exact ⟨by omega,by omega,by omega⟩
 intro h11 a H
 try have oD:=dF h11
 refine dV ?_;refine K5 _ _ ?_;clear K5;refine kP H (SR fun _ bY=>Rm rfl (Ra rfl (ak bY rfl ?_)));clear H bY;intro a H;refine bW ?_;refine (eY H results197 (.cons (aT H rfl) (.cons (aT H rfl) .nil)) ?_).1;exact H.rt ⟨by rw [qw,ah (by omega),uy] at hf;rw [hf];simp [Jq,show rG s=true by simpa using h7],rfl⟩
theorem hmx:prog.follows .mixedOrders=true:=by kernel_rfl
theorem jZ:dH prog 68 0 0:=⟨by kernel_rfl⟩
theorem aH:Ty prog 3 1 8 [.int .i64 0] false:=⟨by kernel_rfl,by kernel_rfl⟩
theorem vH:dH prog 68 3 3:=⟨by kernel_rfl⟩
theorem iN:Ty prog 9 1 16 [.string ⟨#[]⟩] false:=⟨by kernel_rfl,by kernel_rfl⟩
theorem Ya:∀ args w,(callFunc 197 args).run prog w=.ok (.enter 197 args) w:=enters func197 rfl (by kernel_rfl)
theorem iF:prog.underlying 22=some (.slice 68):=by kernel_rfl
theorem fG:Ty prog 68 11 176 [.int .i64 0,.int .i64 0,.int .i64 0,.string ⟨#[]⟩,.slice none 0 0,.int .i64 0,.int .i64 0,.slice none 0 0,.slice none 0 0,.slice none 0 0,.slice none 0 0] true:=⟨by kernel_rfl,by kernel_rfl⟩
theorem agF:∀ args w,(callFunc 143 args).run prog w=.ok (.enter 143 args) w:=enters func143 rfl (by kernel_rfl)
theorem gy:prog.underlying 23=some (.slice 187):=by kernel_rfl
theorem gM:Ty prog 187 2 16 [.int .i64 0,.int .i64 0] true:=⟨by kernel_rfl,by kernel_rfl⟩
theorem lJ:prog.underlying 24=some (.slice 159):=by kernel_rfl
theorem nG:Ty prog 159 2 16 [.int .i64 0,.int .i64 0] true:=⟨by kernel_rfl,by kernel_rfl⟩
theorem ku:prog.underlying 25=some (.slice 161):=by kernel_rfl
theorem jk:Ty prog 161 4 32 [.int .i64 0,.int .i64 0,.int .i64 0,.bool false] true:=⟨by kernel_rfl,by kernel_rfl⟩
theorem eu:Ty prog 29 5 88 [.slice none 0 0,.int .i64 0,.int .i64 0,.slice none 0 0,.slice none 0 0] true:=⟨by kernel_rfl,by kernel_rfl⟩
theorem xW:dH prog 29 0 0:=⟨by kernel_rfl⟩
theorem um:Ty prog 23 1 24 [.slice none 0 0] false:=⟨by kernel_rfl,by kernel_rfl⟩
theorem MZ:∀ args w,(callFunc 168 args).run prog w=.ok (.enter 168 args) w:=enters func168 rfl (by kernel_rfl)
theorem lZ:dH prog 29 1 1:=⟨by kernel_rfl⟩
theorem pU:dH prog 27 2 2:=⟨by kernel_rfl⟩
theorem qj:Ty prog 24 1 24 [.slice none 0 0] false:=⟨by kernel_rfl,by kernel_rfl⟩
theorem agW:∀ args w,(callFunc 169 args).run prog w=.ok (.enter 169 args) w:=enters func169 rfl (by kernel_rfl)
theorem zJ:dH prog 27 3 3:=⟨by kernel_rfl⟩
theorem Ap:Ty prog 25 1 24 [.slice none 0 0] false:=⟨by kernel_rfl,by kernel_rfl⟩
theorem agX:∀ args w,(callFunc 170 args).run prog w=.ok (.enter 170 args) w:=enters func170 rfl (by kernel_rfl)
theorem mX:prog.underlying 66=some (.slice 74):=by kernel_rfl
theorem jP:Ty prog 74 6 112 [.slice none 0 0,.int .i64 0,.int .i64 0,.slice none 0 0,.slice none 0 0,.slice none 0 0] true:=⟨by kernel_rfl,by kernel_rfl⟩
theorem om:prog.underlying 72=some (.slice 76):=by kernel_rfl
theorem kI:Ty prog 76 7 120 [.int .i64 0,.slice none 0 0,.int .i64 0,.int .i64 0,.slice none 0 0,.slice none 0 0,.slice none 0 0] true:=⟨by kernel_rfl,by kernel_rfl⟩
theorem J9:dH prog 76 0 0:=⟨by kernel_rfl⟩
theorem FK:dH prog 76 1 1:=⟨by kernel_rfl⟩
theorem FD:∀ args w,(callFunc 108 args).run prog w=.ok (.enter 108 args) w:=enters func108 rfl (by kernel_rfl)
theorem FL:dH prog 76 2 6:=⟨by kernel_rfl⟩
theorem jc:Ty prog 22 1 24 [.slice none 0 0] false:=⟨by kernel_rfl,by kernel_rfl⟩
theorem M4:∀ args w,(callFunc 80 args).run prog w=.ok (.enter 80 args) w:=enters func80 rfl (by kernel_rfl)
theorem Ve:pK prog 76 [(0,1),(1,5),(6,1)] [.int .i64 0,.slice none 0 0,.int .i64 0,.int .i64 0,.slice none 0 0,.slice none 0 0,.slice none 0 0]:=⟨by kernel_rfl,by kernel_rfl⟩
theorem FJ:dH prog 74 0 0:=⟨by kernel_rfl⟩
theorem vJ:dH prog 74 1 5:=⟨by kernel_rfl⟩
theorem wD:Ty prog 72 1 24 [.slice none 0 0] false:=⟨by kernel_rfl,by kernel_rfl⟩
theorem X8:∀ args w,(callFunc 172 args).run prog w=.ok (.enter 172 args) w:=enters func172 rfl (by kernel_rfl)
theorem Vd:pK prog 74 [(0,5),(5,1)] [.slice none 0 0,.int .i64 0,.int .i64 0,.slice none 0 0,.slice none 0 0,.slice none 0 0]:=⟨by kernel_rfl,by kernel_rfl⟩
theorem vI:dH prog 68 4 4:=⟨by kernel_rfl⟩
theorem zK:dH prog 68 5 9:=⟨by kernel_rfl⟩
theorem qP:dH prog 68 6 10:=⟨by kernel_rfl⟩
theorem rF:Ty prog 66 1 24 [.slice none 0 0] false:=⟨by kernel_rfl,by kernel_rfl⟩
theorem XW:∀ args w,(callFunc 110 args).run prog w=.ok (.enter 110 args) w:=enters func110 rfl (by kernel_rfl)
theorem X5:∀ args w,(callFunc 140 args).run prog w=.ok (.enter 140 args) w:=enters func140 rfl (by kernel_rfl)
theorem ahs:∀ args w,(callFunc 203 args).run prog w=.ok (.enter 203 args) w:=enters func203 rfl (by kernel_rfl)
theorem agE:∀ args w,(callFunc 142 args).run prog w=.ok (.enter 142 args) w:=enters func142 rfl (by kernel_rfl)
theorem agD:∀ args w,(callFunc 141 args).run prog w=.ok (.enter 141 args) w:=enters func141 rfl (by kernel_rfl)
def iO (x:ay):Nat:=if x.kind=1 then tq x.text else 1
def BS (x:ay):Int:=if x.kind=1 then Jq x.text else 0
theorem arz (G:GH) (w0:World) (hG:Hold G w0) (x:ay) (i2 i3:Int) (p i5 i6 d l f r:aj) (hs:x.text.size < 4611686018427387904) :
  Calls prog 143 #[.agg #[vi x.kind,vi i2,vi i3,.string x.text,p,i5,i6,d,l,f,r]] w0 (aZ w0 G fun v G'=>v=.tuple #[vi (iO x),vi (BS x)]∧G=G'):=by
 refine eN [(0,_)] func143 rfl ntmps143 rfl rfl hG ?_;intro a H;refine cu (fun _ K1=>?_);refine dQ (cs:=[_,_,_,_,_,_,_,_,_,_,_]) H wn rfl rfl rfl ?_;clear H;intro b1 a w hb1 H;refine kH H (Ra rfl (ak K1 rfl (SQ fun _ K2=>SR fun _ K3=>aY jZ aH 0 rfl rfl (Rc rfl (Kz K3 (Cd rfl ?_ ?_)))))) <;> clear H K1 K3
 ·intro h6 a H
  try have p6:=dT h6
  refine kP H (SR fun _ K4=>Ra rfl (ak K4 rfl ?_));clear H K4;intro a H;refine bW ?_;refine (eY H results143 (.cons (aT H rfl) (.cons (aT H rfl) .nil)) ?_).1;exact H.rt ⟨by simp only [iO,BS,ah p6];rfl,rfl⟩
 intro h6 a H
 try have p6:=dF h6
 refine kP H (Kc K2 (SR fun _ K5=>aY vH iN 0 rfl rfl ?_));clear H K2;intro a H;refine s_call Ya H wn rfl (Xz _ _ H.ro _ hs) rfl ?_;clear H;rintro v9 _ a w ⟨rfl,rfl⟩ - H;(iterate 2 refine lq H wn rfl rfl rfl ?_;clear H;intro a H);refine kH H (Ra rfl (ak K5 rfl ?_));clear H K5;intro a H;refine bW ?_;refine (eY H results143 (.cons (aT H rfl) (.cons (aT H rfl) .nil)) ?_).1;exact H.rt ⟨by rw [nV] at p6;simp only [iO,BS,au p6],rfl⟩
def xQ (l:List ay):Bool:=l.all fun x=>decide (BS x=0)
def rY:List ay→Nat
 | []=>0
 | x :: l=>iO x+rY l
def yx (l:List ay):Int:=if xQ l then rY l else 0
def Uh (l:List ay):Int:=if xQ l then 0 else 12
def lU:List ay→Nat
 | []=>0
 | x :: l=>x.text.size+1+lU l
theorem acw:∀ l:List ay,rY l≤lU l
 | []=>bM _
 | x :: l=>by
  have:=acw l;have h2:=MQ x.text
  simp only [rY,lU,iO];split <;> omega
theorem acB {x:ay}:∀ {l:List ay},x∈l→x.text.size < lU l
 | [],h=>by cases h
 | y :: l,h=>by
  simp only [lU]
  rcases jS.1 h with rfl|h
  ·omega
  have:=acB h;omega
theorem arf (l m:List ay):rY (l++m)=rY l+rY m:=by
 induction l with
 | nil=>simp [rY]
 | cons x l ih=>simp [rY,ih];omega
theorem arh {l:List ay} {k:Nat} (h:k < l.length):rY (l.take (k+1))=rY (l.take k)+iO l[k]:=by
 rw [iU h,arf];simp [rY]
theorem GU (l m:List ay):lU (l++m)=lU l+lU m:=by
 induction l with
 | nil=>simp [lU]
 | cons x l ih=>simp [lU,ih];omega
theorem Vl (l:List ay) (k:Nat):lU (l.take k)≤lU l:=by
 have:=GU (l.take k) (l.drop k);rw [List.take_append_drop] at this;omega
theorem Bh {G:GH} {l:List ay} {A:Option Addr} {k:Nat} (hk:k < l.length) (hg:∀ k r,(l.map ay.dat)[k]?=some r→∃ b o cs,A=some ⟨b,o,none⟩∧cs.length=11∧(∀ j u,cs[j]?=some u→aI G b (o+k*11+j)=some u)∧aU G r cs) :
  ∃ b o pA pn pc dA dn dc yA yn yc fA fn fc rA rn rc,A=some ⟨b,o,none⟩∧(∀ j u,[vi l[k].kind,vi l[k].code,vi l[k].id,.string l[k].text,.slice pA pn pc,vi l[k].head.marks.ins,vi l[k].head.marks.move,.slice dA dn dc,.slice yA yn yc,.slice fA fn fc,.slice rA rn rc][j]?=some u→aI G b (o+k*11+j)=some u) ∧
   jd G l[k].head (.slice pA pn pc) (.slice dA dn dc) (.slice yA yn yc)∧av G (.sl 11 (l[k].flow.map ay.dat)) (.slice fA fn fc)∧av G (.sl 6 (l[k].rows.map aW.dat)) (.slice rA rn rc):=by
 obtain ⟨b,o,cs,h1,h2,h3,h4⟩:=hg k l[k].dat (by simp [hk]);obtain ⟨pA,pn,pc,dA,dn,dc,yA,yn,yc,fA,fn,fc,rA,rn,rc,rfl,h5,h6,h7⟩:=h4.item;exact ⟨b,o,pA,pn,pc,dA,dn,dc,yA,yn,yc,fA,fn,fc,rA,rn,rc,h1,h3,h5,h6,h7⟩
theorem afP {l:List ay} {k:Nat} (h:k < l.length):xQ (l.take (k+1))=(xQ (l.take k) && decide (BS l[k]=0)):=by
 unfold xQ
 rw [iU h,List.all_append];simp
theorem afO {l:List ay} {k:Nat} (h:k < l.length) (hn:¬ BS l[k]=0):xQ l=false:=by
 unfold xQ
 rw [List.all_eq_false];exact ⟨l[k],kS h,by simpa using hn⟩
theorem Oa:∀ l:List ay,l.length≤lU l
 | []=>bM _
 | x :: l=>by have:=Oa l;simp only [kR,lU];omega
theorem Vk:∀ l:List ay,lU l≤bK l
 | []=>bM _
 | x :: l=>by
  have:=Vk l;have h2:=xJ x
  simp only [lU,bK,fK,dU] at *;omega
theorem aaE (G:GH) (w0:World) (hG:Hold G w0) (l:List ay) (v:aj) (hv:av G (.sl 11 (l.map ay.dat)) v) (hz:bK l≤4294967296) :
  Calls prog 81 #[v] w0 (aZ w0 G fun v G'=>v=.tuple #[vi (yx l),vi (Uh l)]∧G=G'):=by
 obtain ⟨A,c,rfl,hc1,hc2,hg⟩:=hv.slice;rw [bG] at *;have hll:=Oa l;have htz:=Vk l;refine eN [(0,_)] func81 rfl ntmps81 rfl rfl hG ?_;intro a H;refine kP H (SR fun _ K1=>Ra rfl (ak K1 rfl (SR fun _ K2=>ak K2 rfl (SQ fun _ K3=>SR fun _ K4=>Rm rfl (Rl iF rfl (Rm rfl (Kz K4 (SB ?_))))))));clear H K1 K2 K4;intro a H;skip;refine eU (ι:=Nat) (Tc:=[(9,_),(10,_)]) (Lc:=[]) (fun gh=>[(4,vi (rY (l.take gh))),(11,vi gh)]) (fun gh=>[]) (fun gh=>G) (fun gh=>gh≤l.length∧xQ (l.take gh)=true) (fun gh=>l.length - gh) (0) (by exact (H).sub ⟨rfl,rfl,rfl,rfl,aC⟩) ?_ ?_
 ·exact ⟨by omega,by simp [xQ]⟩
 clear H;intro k a w hI H;obtain ⟨hk,hd⟩:=hI;dsimp only [lca,bJ] at H;refine kP H (SR fun _ K5=>Rc rfl (Kz K5 (SQ fun _ K6=>Cd rfl ?_ ?_))) <;> clear H K5
 ·intro h12 a H
  try have qb:=dT h12
  have hk2:k < l.length:=by omega
  obtain ⟨b,o,pA,pn,pc,dA,dn,dc,yA,yn,yc,fA,fn,fc,rA,rn,rc,rfl,hrow,-⟩:=Bh hk2 hg;have hsm:=arh hk2;have hle:=acw (l.take (k+1));have hle2:=Vl l (k+1);refine kP H (Kc K6 (SQ fun _ K7=>SB (SR fun _ K8=>Ri iF fG rfl rfl ?_)));clear H K6;intro a H;refine bL fG (cs:=[_,_,_,_,_,_,_,_,_,_,_]) H wn rfl rfl (fun j v hj=>H.hp.aI (hrow j v hj)) rfl ?_;clear H;intro a H;refine dS fG H wn rfl ?_;clear H;intro b6 a w hb6 H;refine bD fG 0 (vs:=[_,_,_,_,_,_,_,_,_,_,_]) _ H wn rfl rfl rfl rfl rfl rfl rfl rfl ?_;clear H;intro w H;dsimp only [List.set,setRow] at H;refine K8 _ _ ?_;clear K8;refine cu (fun _ K9=>?_);refine bL fG (cs:=[_,_,_,_,_,_,_,_,_,_,_]) H wn rfl rfl (H.hp.cO 0 rfl rfl) rfl ?_;clear H;intro a H;refine s_call agF H wn rfl (arz _ _ H.ro _ _ _ _ _ _ _ _ _ _ (by have:=acB (kS hk2);omega)) rfl ?_;clear H;rintro v17 _ a w ⟨rfl,rfl⟩ - H;refine kH H (Rm rfl ?_);clear H;intro a H;(iterate 2 refine lq H wn rfl rfl rfl ?_;clear H;intro a H);refine kH H (Ra rfl (ak K9 rfl (SQ fun _ aR=>SR fun _ bQ=>Rm rfl (Rc rfl (Kz bQ (Cd rfl ?_ ?_)))))) <;> clear H K9 bQ
  ·intro h21 a H
   try have wB:=dT h21
   refine kP H (SR fun _ bY=>Ra rfl (ak bY rfl ?_));clear H bY;intro a H;refine bW ?_;refine (eY H results81 (.cons (aT H rfl) (.cons (aT H rfl) .nil)) ?_).1;exact H.rt ⟨by simp [yx,Uh,afO hk2 wB],rfl⟩
  intro h21 a H
  try have wB:=dF h21
  refine kP H (Kc aR (SC (Rm rfl (Rm rfl (Rd rfl ?_)))));clear H aR;intro a H;rw [← Int.natCast_add,← hsm] at H;refine kH H (bq K7 rfl (SC (Rd rfl (Rm rfl ?_))));clear H K7;intro a H;refine aD ?_;refine dD ((k+1)) (by exact (H.dY (Pl:=[_]) (dK:=[]) [] (by decide) rfl).sub ⟨rfl,rfl,rfl,rfl,aC⟩) ?_
  exact ⟨by omega,by rw [afP hk2,hd];simpa using wB⟩
 intro h12 a H
 try have qb:=dF h12
 refine dV ?_;refine K3 _ _ ?_;clear K3;refine kP H (SR fun _ cZ=>Rm rfl (Ra rfl (ak cZ rfl ?_)));clear H cZ;intro a H;refine bW ?_;refine (eY H results81 (.cons (aT H rfl) (.cons (aT H rfl) .nil)) ?_).1;exact H.rt ⟨by rw [show l.take k=l from iC (by omega)] at hd ⊢;simp [yx,Uh,hd],rfl⟩
theorem Qu (G:GH) (w0:World) (hG:Hold G w0) (rows:List (List Dat)) (A:Option Addr) (n c:Nat) (hv:av G (.sl 2 rows) (.slice A n c)) (hz:rows.length≤4294967296) :
  Calls prog 168 #[.slice A n c] w0 (aZ w0 G fun v G'=>av G' (.sl 2 rows) v):=by
 obtain ⟨hn,hc1,hc2,hnil,hx⟩:=hv.cells;refine eN [(0,_)] func168 rfl ntmps168 rfl rfl hG ?_;intro a H;refine kP H (SR fun _ K1=>ak K1 rfl (SQ fun _ K2=>SR fun _ K3=>Rm rfl ?_));clear H K1;intro a H;refine BM gy H wn rfl rfl ?_;clear H;intro a H;refine K3 _ _ ?_;clear K3;refine jD H rfl ?_ ?_
 ·intro h4
  exact kP H (SR fun _ K4=>ak K4 rfl (LR results168 rfl fun H=>H.rt (by rw [hnil (by simpa using h4)];exact av.lg rfl (by simp [maxLen]))))
 intro h4
 try have p4:=dF h4
 refine gU ?_;refine K2 _ _ ?_;clear K2;refine bN (fun _ K5=>?_)
 have hA:¬ A=none:=by intro e;rw [e] at h4;cases h4
 refine pR ?_;refine BK gy gM H wn rfl ?_;clear H;intro b5 a w hb5 H;refine kH H (Rm rfl ?_);clear H;intro a H
 by_cases hr0:rows=[]
 ·have hn0:n=0:=by rw [hn,hr0];rfl
  subst hn0;refine BJ gy gM H wn rfl rfl (bM _) rfl ?_;clear H;intro a H;exact kH H (bq K5 rfl (LR results168 rfl fun H=>H.rt (by rw [hr0];exact av.lg rfl (by simp [maxLen]))))
 obtain ⟨b,o,xs,rfl,hxl,hxc,hx1,dP⟩:=hx hr0;refine nE (Li:=[]) (Lo:=[_]) (news:=xs) gy gM rfl rfl H wn rfl rfl bZ.empty hxl (fun j u hj=>H.hp.aI (hxc j u hj)) hx1 (by omega) (by omega) rfl ?_;clear H;intro v7 Lo a w hrow H;obtain ⟨G',hm,hrep,H⟩:=H.nW hrow (rows:=rows) (by omega) (by simpa using dP)
 try clear hG
 obtain ⟨G2,hG2⟩:∃ g,g=G':=⟨_,rfl⟩;subst hG2;exact kH H (bq K5 rfl (LR results168 rfl fun H=>H.rt hrep))
theorem afd (G:GH) (w0:World) (hG:Hold G w0) (rows:List (List Dat)) (A:Option Addr) (n c:Nat) (hv:av G (.sl 2 rows) (.slice A n c)) (hz:rows.length≤4294967296) :
  Calls prog 169 #[.slice A n c] w0 (aZ w0 G fun v G'=>av G' (.sl 2 rows) v):=by
 obtain ⟨hn,hc1,hc2,hnil,hx⟩:=hv.cells;refine eN [(0,_)] func169 rfl ntmps169 rfl rfl hG ?_;intro a H;refine kP H (SR fun _ K1=>ak K1 rfl (SQ fun _ K2=>SR fun _ K3=>Rm rfl ?_));clear H K1;intro a H;refine BM lJ H wn rfl rfl ?_;clear H;intro a H;refine K3 _ _ ?_;clear K3;refine jD H rfl ?_ ?_
 ·intro h4
  exact kP H (SR fun _ K4=>ak K4 rfl (LR results169 rfl fun H=>H.rt (by rw [hnil (by simpa using h4)];exact av.lg rfl (by simp [maxLen]))))
 intro h4
 try have p4:=dF h4
 refine gU ?_;refine K2 _ _ ?_;clear K2;refine bN (fun _ K5=>?_)
 have hA:¬ A=none:=by intro e;rw [e] at h4;cases h4
 refine pR ?_;refine BK lJ nG H wn rfl ?_;clear H;intro b5 a w hb5 H;refine kH H (Rm rfl ?_);clear H;intro a H
 by_cases hr0:rows=[]
 ·have hn0:n=0:=by rw [hn,hr0];rfl
  subst hn0;refine BJ lJ nG H wn rfl rfl (bM _) rfl ?_;clear H;intro a H;exact kH H (bq K5 rfl (LR results169 rfl fun H=>H.rt (by rw [hr0];exact av.lg rfl (by simp [maxLen]))))
 obtain ⟨b,o,xs,rfl,hxl,hxc,hx1,dP⟩:=hx hr0;refine nE (Li:=[]) (Lo:=[_]) (news:=xs) lJ nG rfl rfl H wn rfl rfl bZ.empty hxl (fun j u hj=>H.hp.aI (hxc j u hj)) hx1 (by omega) (by omega) rfl ?_;clear H;intro v7 Lo a w hrow H;obtain ⟨G',hm,hrep,H⟩:=H.nW hrow (rows:=rows) (by omega) (by simpa using dP)
 try clear hG
 obtain ⟨G2,hG2⟩:∃ g,g=G':=⟨_,rfl⟩;subst hG2;exact kH H (bq K5 rfl (LR results169 rfl fun H=>H.rt hrep))
theorem afi (G:GH) (w0:World) (hG:Hold G w0) (rows:List (List Dat)) (A:Option Addr) (n c:Nat) (hv:av G (.sl 4 rows) (.slice A n c)) (hz:rows.length≤4294967296) :
  Calls prog 170 #[.slice A n c] w0 (aZ w0 G fun v G'=>av G' (.sl 4 rows) v):=by
 obtain ⟨hn,hc1,hc2,hnil,hx⟩:=hv.cells;refine eN [(0,_)] func170 rfl ntmps170 rfl rfl hG ?_;intro a H;refine kP H (SR fun _ K1=>ak K1 rfl (SQ fun _ K2=>SR fun _ K3=>Rm rfl ?_));clear H K1;intro a H;refine BM ku H wn rfl rfl ?_;clear H;intro a H;refine K3 _ _ ?_;clear K3;refine jD H rfl ?_ ?_
 ·intro h4
  exact kP H (SR fun _ K4=>ak K4 rfl (LR results170 rfl fun H=>H.rt (by rw [hnil (by simpa using h4)];exact av.lg rfl (by simp [maxLen]))))
 intro h4
 try have p4:=dF h4
 refine gU ?_;refine K2 _ _ ?_;clear K2;refine bN (fun _ K5=>?_)
 have hA:¬ A=none:=by intro e;rw [e] at h4;cases h4
 refine pR ?_;refine BK ku jk H wn rfl ?_;clear H;intro b5 a w hb5 H;refine kH H (Rm rfl ?_);clear H;intro a H
 by_cases hr0:rows=[]
 ·have hn0:n=0:=by rw [hn,hr0];rfl
  subst hn0;refine BJ ku jk H wn rfl rfl (bM _) rfl ?_;clear H;intro a H;exact kH H (bq K5 rfl (LR results170 rfl fun H=>H.rt (by rw [hr0];exact av.lg rfl (by simp [maxLen]))))
 obtain ⟨b,o,xs,rfl,hxl,hxc,hx1,dP⟩:=hx hr0;refine nE (Li:=[]) (Lo:=[_]) (news:=xs) ku jk rfl rfl H wn rfl rfl bZ.empty hxl (fun j u hj=>H.hp.aI (hxc j u hj)) hx1 (by omega) (by omega) rfl ?_;clear H;intro v7 Lo a w hrow H;obtain ⟨G',hm,hrep,H⟩:=H.nW hrow (rows:=rows) (by omega) (by simpa using dP)
 try clear hG
 obtain ⟨G2,hG2⟩:∃ g,g=G':=⟨_,rfl⟩;subst hG2;exact kH H (bq K5 rfl (LR results170 rfl fun H=>H.rt hrep))
theorem Fz (G:GH) (w0:World) (hG:Hold G w0) (h:dM) (pA dA yA:Option Addr) (pn pc dn dc yn yc:Nat) (hv:jd G h (.slice pA pn pc) (.slice dA dn dc) (.slice yA yn yc)) (hz:lW h≤4294967296) :
  Calls prog 108 #[.agg #[.slice pA pn pc,vi h.marks.ins,vi h.marks.move,.slice dA dn dc,.slice yA yn yc]] w0 (aZ w0 G fun v G'=>∃ p d l,v=.agg #[p,vi h.marks.ins,vi h.marks.move,d,l]∧jd G' h p d l):=by
 have he:=ET h;have h1:=qH (h.props.map aO.dat);have h2:=qH (h.marks.bE.map gq.dat);have h3:=qH (h.marks.layers.map cK.dat);refine eN [(0,_)] func108 rfl ntmps108 rfl rfl hG ?_;intro a H;refine cu (fun _ K1=>?_);refine dQ (cs:=[_,_,_,_,_]) H wn rfl rfl rfl ?_;clear H;intro b1 a w hb1 H;refine dS eu H wn rfl ?_;clear H;intro b2 a w hb2 H;refine K1 _ _ ?_;clear K1;refine kP H (SR fun _ K2=>aY xW um 1 rfl rfl ?_);clear H;intro a H;refine s_call MZ H wn rfl (Qu _ _ H.ro _ _ _ _ hv.props (by omega)) rfl ?_;clear H;rintro v5 G5 a w qX yh H;obtain ⟨A5,n5,c5,rfl⟩:=qX.form;refine kH H (Rf xW rfl ?_);clear H;intro a H;refine bD um 1 (vs:=[_]) _ H wn rfl rfl rfl rfl rfl rfl rfl rfl ?_;clear H;intro w H;dsimp only [List.set,setRow] at H;refine K2 _ _ ?_;clear K2;refine bN (fun _ K3=>?_);obtain ⟨hvp,hvd,hvy⟩:=hv.mono yh;clear hv
 have qC:Ch (fun (dB:Nat) (v:aj) (G:GH)=>match dB with|0=>v=(aK b1 1)|1=>v=(aK b1 3)|2=>v=.slice dA dn dc|3=>av G (.sl 2 (h.marks.bE.map gq.dat)) v|4=>v=(aK b1 1)|5=>v=(aK b1 4)|6=>v=.slice yA yn yc|7=>av G (.sl 4 (h.marks.layers.map cK.dat)) v|8=>v=(aK b1 1)|9=>v=(aK b1 3)|_=>True):=by intro dB v G G' hm h;(iterate 14 (rcases dB with _|dB;(first|exact h|exact av.mono hm h)));exact trivial
 refine Bb (hmx) [[],[0],[0,1],[0,1,2],[],[4],[4,5],(ra 0 7),(ra 0 7),(ra 0 7++[8]),(ra 0 10),(ra 0 11),(ra 0 12),(ra 0 13)] (ra 10 4) (by kernel_rfl) (by kernel_rfl) _ qC H ?_ ?_
 ·clear H;refine aF ?_ ?_ ?_ ?_ (aF ?_ ?_ ?_ ?_ (aF ?_ ?_ (bS rfl) (bS rfl) (bR (bS rfl) (bR (bS rfl) dz))))
  ·refine dX [] rfl trivial (by kernel_rfl) qC rfl rfl ?_;intro bB a w G1 hG HT H fin;exact kH H (Rf lZ rfl fun _ H=>fin H iJ rfl)
  ·refine dX [(0,7,_)] rfl ⟨fun _ _ h=>h,aC⟩ (by kernel_rfl) qC rfl rfl ?_;intro bB a w G1 hG HT H fin;exact kH H (Rf pU rfl fun _ H=>fin H iJ rfl)
  ·refine dX [(1,8,_)] rfl ⟨fun _ _ h=>h,aC⟩ (by kernel_rfl) qC rfl rfl ?_;intro bB a w G1 hG HT H fin;exact kH H (Ro qj 1 rfl fun _ H=>fin H iJ rfl)
  ·refine dX [(2,9,_)] rfl ⟨fun _ _ h=>h,aC⟩ (by kernel_rfl) qC rfl rfl ?_;intro bB a w G1 hG HT H fin;refine s_call agW H wn rfl (afd _ _ H.ro _ _ _ _ (hvd.mono hG) (by omega)) rfl ?_;clear H;rintro v10 Ce a w tQ qU H;exact fin H qU (tQ)
  ·refine dX [] rfl trivial (by kernel_rfl) qC rfl rfl ?_;intro bB a w G1 hG HT H fin;exact kH H (Rf lZ rfl fun _ H=>fin H iJ rfl)
  ·refine dX [(4,11,_)] rfl ⟨fun _ _ h=>h,aC⟩ (by kernel_rfl) qC rfl rfl ?_;intro bB a w G1 hG HT H fin;exact kH H (Rf zJ rfl fun _ H=>fin H iJ rfl)
  ·refine dX [(5,12,_)] rfl ⟨fun _ _ h=>h,aC⟩ (by kernel_rfl) qC rfl rfl ?_;intro bB a w G1 hG HT H fin;exact kH H (Ro Ap 1 rfl fun _ H=>fin H iJ rfl)
  ·refine dX [(6,13,_)] rfl ⟨fun _ _ h=>h,aC⟩ (by kernel_rfl) qC rfl rfl ?_;intro bB a w G1 hG HT H fin;refine s_call agX H wn rfl (afi _ _ H.ro _ _ _ _ (hvy.mono hG) (by omega)) rfl ?_;clear H;rintro v14 Aw a w rX CB H;exact fin H CB (rX)
  ·refine dX [] rfl trivial (by kernel_rfl) qC rfl rfl ?_;intro bB a w G1 hG HT H fin;exact kH H (Rf lZ rfl fun _ H=>fin H iJ rfl)
  refine dX [(8,15,_)] rfl ⟨fun _ _ h=>h,aC⟩ (by kernel_rfl) qC rfl rfl ?_;intro bB a w G1 hG HT H fin;exact kH H (Rf pU rfl fun _ H=>fin H iJ rfl)
 clear H;intro a w G CG H hv;obtain ⟨u10,KS,tQ⟩:=hv 3 10 (by decide) rfl;(try dsimp only at tQ);obtain ⟨VE,n10,c10,rfl⟩:=tQ.form;have H:=H.jR KS;obtain ⟨u14,KT,rX⟩:=hv 7 14 (by decide) rfl;(try dsimp only at rX);obtain ⟨Pw,n14,c14,rfl⟩:=rX.form;have H:=H.jR KT;have H:=H.aM (hv 9 16 rfl rfl) rfl;clear hv;refine bD qj 1 (vs:=[_]) _ H wn rfl rfl rfl rfl rfl rfl rfl rfl ?_;clear H;intro w H;dsimp only [List.set,setRow] at H;refine kH H (Rf lZ rfl (Rf zJ rfl ?_));clear H;intro a H;refine bD Ap 1 (vs:=[_]) _ H wn rfl rfl rfl rfl rfl rfl rfl rfl ?_;clear H;intro w H;dsimp only [List.set,setRow] at H;refine aD ⟨rfl,?_⟩;refine K3 _ _ ?_;clear K3;refine cu (fun _ K4=>?_);refine bL eu (cs:=[_,_,_,_,_]) H wn rfl rfl (H.hp.cO 1 rfl rfl) rfl ?_;clear H;intro a H;refine bD eu 0 (vs:=[_,_,_,_,_]) _ H wn rfl rfl rfl rfl rfl rfl rfl rfl ?_;clear H;intro w H;dsimp only [List.set,setRow] at H;refine K4 _ _ ?_;clear K4;refine bW ?_;refine (leave1 H results108 (.cons (nQ eu (cs:=[_,_,_,_,_]) H rfl rfl (H.hp.cO 0 rfl rfl)) .nil) ?_).1;exact H.rt ⟨_,_,_,rfl,qX.mono CG,tQ,rX⟩
theorem yC {G:GH} {w:World} (h:Hold G w):gD G [] w:=⟨h,fun _ h=>(by cases h),fun _ h=>(by cases h),List.Pairwise.nil⟩
theorem Ia {P:Program} {f:FuncId} {args:Array aj} {w0:World} {G:GH} {e sz n:Nat} {rows:List (List Dat)} (hG:Hold G w0) (h:Calls P f args w0 (fV w0 G [] fun u G' L'=>∃ xs,bZ e sz u n xs L'∧bT G' sz rows xs)) (hl:rows.length=n) :
  Calls P f args w0 (aZ w0 G fun u G'=>av G' (.sl sz rows) u):=by
 intro cs;obtain ⟨e1,w',fr,⟨v,G',L',rfl,hch,xs,hrow,dP⟩,h2,h3,h4⟩:=h cs;have hp0:Hp w0 (fun k=>k < w0.heap.size) G G ([]++[]) w0:=⟨rfl,rfl,rfl,bM _,fun _ h=>h,fun _ _=>rfl,hG,fun _ _ h=>h,fun _ _ h=>.inl h,fun _ h=>(by cases h),fun _ h=>(by cases h),fun _ h=>(by cases h),List.Pairwise.nil⟩;have hp1:=hp0.change hch;rw [mZ] at hp1;refine ⟨_,w',fr,?_,h2,h3,h4⟩
 rcases hrow.2 with ⟨rfl,h5,rfl⟩|⟨b,cap,cur,rfl,rfl,h5,h6,h7,h8⟩
 ·refine hp1.ret ?_;have:rows=[]:=List.eq_nil_of_length_eq_zero (by omega);subst this
  simp only [av]
  exact ⟨none,0,by simp,by simp,by simp [maxLen],fun h=>absurd rfl h⟩
 have hn:=hp1.uh (b,.cells cur e (0,0)) (by simp);exact (hp1.giveUp 0 rfl).ret (av.fE (GH.HY G' b _) hl h5 h6 h8 (dP.mono fun k o h=>GH.HV G' hn k o h))
def Ca (fv:aj) (w0:World) (G:GH) (d d':List Dat):Prop:=∀ (G1:GH) (w1:World) (cs:List aj),(∀ b o,G b=some o→G1 b=some o)→Hold G1 w1→aU G1 d cs →
 sj prog fv [.agg cs.toArray] w1 (aZ w1 G1 fun u G'=>∃ cs',u=.agg cs'.toArray∧aU G' d' cs')
abbrev Hg (fv:aj) (w0:World) (G:GH) (d:List Dat):Prop:=Ca fv w0 G d d
theorem XR (φ:ay→ay) (G:GH) (w0:World) (hO:gD G [] w0) (l:List ay) (v fv:aj) (hv:av G (.sl 11 (l.map ay.dat)) v) (hz:l.length≤4294967296) (hf:∀ x∈l,Ca fv w0 G x.dat (φ x).dat) :
  Calls prog 140 #[v,fv] w0 (fV w0 G [] fun u G' L'=>∃ xs,bZ 68 11 u l.length xs L'∧bT G' 11 (l.map fun x=>(φ x).dat) xs):=by
 obtain ⟨A,c,rfl,hc1,hc2,hg⟩:=hv.slice
 have hml:4294967297≤maxLen:=by decide
 rw [bG] at *;refine iX (N:=22) (T:=[(0,_),(1,_)]) func140 rfl ntmps140 rfl rfl hO ?_;intro a H;refine kP H (SR fun _ K1=>ak K1 rfl (SR fun _ K2=>ak K2 rfl (SQ fun _ K3=>SR fun _ K4=>Rm rfl (Rl iF rfl (Rm rfl (Kz K4 (SB ?_)))))));clear H K1 K2 K4;intro a H;skip;refine eU (ι:=Nat × aj × List aj × OL × GH) (Tc:=[(1,_),(8,_),(9,_)]) (Lc:=[]) (fun gh=>[(5,gh.2.1),(10,vi gh.1)]) (fun gh=>[]++gh.2.2.2.1) (fun gh=>gh.2.2.2.2) (fun gh=>gh.1≤l.length∧bZ 68 11 gh.2.1 gh.1 gh.2.2.1 gh.2.2.2.1∧bT gh.2.2.2.2 11 ((l.map fun x=>(φ x).dat).take gh.1) gh.2.2.1∧(∀ b o,G b=some o→gh.2.2.2.2 b=some o)) (fun gh=>l.length - gh.1) ((0,.slice none 0 0,[],[],G)) (by exact (H).sub ⟨rfl,rfl,rfl,rfl,rfl,aC⟩) ?_ ?_
 ·exact ⟨by omega,bZ.nil,by simpa using bT.nil,fun _ _ h=>h⟩
 clear H;rintro ⟨k,v,xs,Lo,g⟩ a w hI H;dsimp only at hI H;obtain ⟨hk,hrw,dP,hgm⟩:=hI;dsimp only [lca,bJ] at H;refine kP H (SR fun _ K5=>Rc rfl (Kz K5 (SQ fun _ K6=>Cd rfl ?_ ?_))) <;> clear H K5
 ·intro h11 a H
  try have oD:=dT h11
  have hk2:k < l.length:=by omega
  obtain ⟨b,o,cs,rfl,hcl,hrow,hrep⟩:=hg k l[k].dat (by simp [hk2]);obtain ⟨pA,pn,pc,dA,dn,dc,yA,yn,yc,fA,fn,fc,rA,rn,rc,rfl,-⟩:=hrep.item;replace hrow:=fun j u hj=>aJ hgm (hrow j u hj);refine kP H (Kc K6 (SQ fun _ K7=>SB (SR fun _ K8=>Ri iF fG rfl rfl ?_)));clear H K6;intro a H;refine bL fG (cs:=[_,_,_,_,_,_,_,_,_,_,_]) H wn rfl rfl (fun j v hj=>H.hp.aI (hrow j v hj)) rfl ?_;clear H;intro a H;refine dS fG H wn rfl ?_;clear H;intro b7 a w CO H;refine bD fG 0 (vs:=[_,_,_,_,_,_,_,_,_,_,_]) _ H wn rfl rfl rfl rfl rfl rfl rfl rfl ?_;clear H;intro w H;dsimp only [List.set,setRow] at H;refine K8 _ _ ?_;clear K8;refine kP H (SC (Rm rfl (Rm rfl ?_)));clear H;intro a H;refine bL fG (cs:=[_,_,_,_,_,_,_,_,_,_,_]) H wn rfl rfl (H.hp.cO 0 rfl rfl) rfl ?_;clear H;intro a H;refine ko H wn rfl rfl (hf _ (kS hk2) _ _ _ hgm H.ro (hrep.mono hgm)) rfl ?_;clear H;rintro v17 vg a w ⟨zH,rfl,eX⟩ nN H;obtain ⟨cs,hcs⟩:∃ cs,cs=zH:=⟨_,rfl⟩;obtain ⟨pA,pn,pc,dA,dn,dc,yA,yn,yc,fA,fn,fc,rA,rn,rc,wW,-⟩:=eX.item;rw [wW] at H;refine iE iF fG [_,_,_,_,_,_,_,_,_,_,_] [_,_,_,_,_,_,_,_,_,_,_] H wn rfl rfl rfl rfl rfl (by intro i q h;match i,h with|0,h=>exact h|n+1,h=>simp at h) rfl rfl ?_;clear H;intro b18 a w Nr H;refine nE (Li:=[_,_]) (Lo:=Lo) (news:=zH) iF fG rfl rfl H wn rfl rfl hrw (by rw [wW];rfl) (by rw [wW];exact H.hp.cO 0 rfl rfl) eX.one (by omega) (by omega) rfl ?_;clear H;intro v19 Fg a w yZ H;refine kH H (bq K7 rfl (SC (Rd rfl (Rm rfl ?_))));clear H K7;intro a H;refine aD ?_;refine dD ((k+1,v19,xs++zH,Fg,vg)) (by exact (H.dY (Pl:=[_,_]) (dK:=[]) [] (by decide) rfl).sub ⟨rfl,rfl,rfl,rfl,rfl,aC⟩) ?_
  (try dsimp only);refine ⟨by omega,yZ,?_,fun b o h=>nN b o (hgm b o h)⟩;rw [iU (by simpa using hk2)];exact (dP.mono nN).snoc (by simpa using eX) (by rw [wW];rfl)
 intro h11 a H
 try have oD:=dF h11
 refine dV ?_;refine K3 _ _ ?_;clear K3;refine kP H (SR fun _ K9=>Rm rfl (ak K9 rfl ?_));clear H K9;intro a H;refine lr H results140 rfl ?_
 obtain rfl:k=l.length:=by omega
 exact H.hp.dx ⟨_,hrw,by rw [iC (by simp)] at dP;exact dP⟩
theorem aga (φ:ay→ay) (G:GH) (w0:World) (hG:Hold G w0) (l:List ay) (v fv:aj) (hv:av G (.sl 11 (l.map ay.dat)) v) (hz:l.length≤4294967296) (hf:∀ x∈l,Ca fv w0 G x.dat (φ x).dat) :
  Calls prog 140 #[v,fv] w0 (aZ w0 G fun u G'=>av G' (.sl 11 (l.map fun x=>(φ x).dat)) u):=Ia hG (XR φ G w0 (yC hG) l v fv hv hz hf) (by simp)
theorem afW (G:GH) (w0:World) (hG:Hold G w0) (l:List ay) (v fv:aj) (hv:av G (.sl 11 (l.map ay.dat)) v) (hz:l.length≤4294967296) (hf:∀ x∈l,Hg fv w0 G x.dat) :
  Calls prog 140 #[v,fv] w0 (aZ w0 G fun u G'=>av G' (.sl 11 (l.map ay.dat)) u):=aga (fun x=>x) G w0 hG l v fv hv hz hf
theorem afY (φ:aW→aW) (G:GH) (w0:World) (hO:gD G [] w0) (l:List aW) (v fv:aj) (hv:av G (.sl 6 (l.map aW.dat)) v) (hz:l.length≤4294967296) (hf:∀ x∈l,Ca fv w0 G x.dat (φ x).dat) :
  Calls prog 110 #[v,fv] w0 (fV w0 G [] fun u G' L'=>∃ xs,bZ 74 6 u l.length xs L'∧bT G' 6 (l.map fun x=>(φ x).dat) xs):=by
 obtain ⟨A,c,rfl,hc1,hc2,hg⟩:=hv.slice
 have hml:4294967297≤maxLen:=by decide
 rw [bG] at *;refine iX (N:=22) (T:=[(0,_),(1,_)]) func110 rfl ntmps110 rfl rfl hO ?_;intro a H;refine kP H (SR fun _ K1=>ak K1 rfl (SR fun _ K2=>ak K2 rfl (SQ fun _ K3=>SR fun _ K4=>Rm rfl (Rl mX rfl (Rm rfl (Kz K4 (SB ?_)))))));clear H K1 K2 K4;intro a H;skip;refine eU (ι:=Nat × aj × List aj × OL × GH) (Tc:=[(1,_),(8,_),(9,_)]) (Lc:=[]) (fun gh=>[(5,gh.2.1),(10,vi gh.1)]) (fun gh=>[]++gh.2.2.2.1) (fun gh=>gh.2.2.2.2) (fun gh=>gh.1≤l.length∧bZ 74 6 gh.2.1 gh.1 gh.2.2.1 gh.2.2.2.1∧bT gh.2.2.2.2 6 ((l.map fun x=>(φ x).dat).take gh.1) gh.2.2.1∧(∀ b o,G b=some o→gh.2.2.2.2 b=some o)) (fun gh=>l.length - gh.1) ((0,.slice none 0 0,[],[],G)) (by exact (H).sub ⟨rfl,rfl,rfl,rfl,rfl,aC⟩) ?_ ?_
 ·exact ⟨by omega,bZ.nil,by simpa using bT.nil,fun _ _ h=>h⟩
 clear H;rintro ⟨k,v,xs,Lo,g⟩ a w hI H;dsimp only at hI H;obtain ⟨hk,hrw,dP,hgm⟩:=hI;dsimp only [lca,bJ] at H;refine kP H (SR fun _ K5=>Rc rfl (Kz K5 (SQ fun _ K6=>Cd rfl ?_ ?_))) <;> clear H K5
 ·intro h11 a H
  try have oD:=dT h11
  have hk2:k < l.length:=by omega
  obtain ⟨b,o,cs,rfl,hcl,hrow,hrep⟩:=hg k l[k].dat (by simp [hk2]);obtain ⟨pA,pn,pc,dA,dn,dc,yA,yn,yc,fA,fn,fc,rfl,-⟩:=hrep.row;replace hrow:=fun j u hj=>aJ hgm (hrow j u hj);refine kP H (Kc K6 (SQ fun _ K7=>SB (SR fun _ K8=>Ri mX jP rfl rfl ?_)));clear H K6;intro a H;refine bL jP (cs:=[_,_,_,_,_,_]) H wn rfl rfl (fun j v hj=>H.hp.aI (hrow j v hj)) rfl ?_;clear H;intro a H;refine dS jP H wn rfl ?_;clear H;intro b7 a w CO H;refine bD jP 0 (vs:=[_,_,_,_,_,_]) _ H wn rfl rfl rfl rfl rfl rfl rfl rfl ?_;clear H;intro w H;dsimp only [List.set,setRow] at H;refine K8 _ _ ?_;clear K8;refine kP H (SC (Rm rfl (Rm rfl ?_)));clear H;intro a H;refine bL jP (cs:=[_,_,_,_,_,_]) H wn rfl rfl (H.hp.cO 0 rfl rfl) rfl ?_;clear H;intro a H;refine ko H wn rfl rfl (hf _ (kS hk2) _ _ _ hgm H.ro (hrep.mono hgm)) rfl ?_;clear H;rintro v17 vg a w ⟨zH,rfl,eX⟩ nN H;obtain ⟨cs,hcs⟩:∃ cs,cs=zH:=⟨_,rfl⟩;obtain ⟨pA,pn,pc,dA,dn,dc,yA,yn,yc,fA,fn,fc,wW,-⟩:=eX.row;rw [wW] at H;refine iE mX jP [_,_,_,_,_,_] [_,_,_,_,_,_] H wn rfl rfl rfl rfl rfl (by intro i q h;match i,h with|0,h=>exact h|n+1,h=>simp at h) rfl rfl ?_;clear H;intro b18 a w Nr H;refine nE (Li:=[_,_]) (Lo:=Lo) (news:=zH) mX jP rfl rfl H wn rfl rfl hrw (by rw [wW];rfl) (by rw [wW];exact H.hp.cO 0 rfl rfl) eX.one (by omega) (by omega) rfl ?_;clear H;intro v19 Fg a w yZ H;refine kH H (bq K7 rfl (SC (Rd rfl (Rm rfl ?_))));clear H K7;intro a H;refine aD ?_;refine dD ((k+1,v19,xs++zH,Fg,vg)) (by exact (H.dY (Pl:=[_,_]) (dK:=[]) [] (by decide) rfl).sub ⟨rfl,rfl,rfl,rfl,rfl,aC⟩) ?_
  (try dsimp only);refine ⟨by omega,yZ,?_,fun b o h=>nN b o (hgm b o h)⟩;rw [iU (by simpa using hk2)];exact (dP.mono nN).snoc (by simpa using eX) (by rw [wW];rfl)
 intro h11 a H
 try have oD:=dF h11
 refine dV ?_;refine K3 _ _ ?_;clear K3;refine kP H (SR fun _ K9=>Rm rfl (ak K9 rfl ?_));clear H K9;intro a H;refine lr H results110 rfl ?_
 obtain rfl:k=l.length:=by omega
 exact H.hp.dx ⟨_,hrw,by rw [iC (by simp)] at dP;exact dP⟩
theorem XU (φ:aW→aW) (G:GH) (w0:World) (hG:Hold G w0) (l:List aW) (v fv:aj) (hv:av G (.sl 6 (l.map aW.dat)) v) (hz:l.length≤4294967296) (hf:∀ x∈l,Ca fv w0 G x.dat (φ x).dat) :
  Calls prog 110 #[v,fv] w0 (aZ w0 G fun u G'=>av G' (.sl 6 (l.map fun x=>(φ x).dat)) u):=Ia hG (afY φ G w0 (yC hG) l v fv hv hz hf) (by simp)
theorem afZ (G:GH) (w0:World) (hG:Hold G w0) (l:List aW) (v fv:aj) (hv:av G (.sl 6 (l.map aW.dat)) v) (hz:l.length≤4294967296) (hf:∀ x∈l,Hg fv w0 G x.dat) :
  Calls prog 110 #[v,fv] w0 (aZ w0 G fun u G'=>av G' (.sl 6 (l.map aW.dat)) u):=XU (fun x=>x) G w0 hG l v fv hv hz hf
theorem afX (φ:aX→aX) (G:GH) (w0:World) (hO:gD G [] w0) (l:List aX) (v fv:aj) (hv:av G (.sl 7 (l.map aX.dat)) v) (hz:l.length≤4294967296) (hf:∀ x∈l,Ca fv w0 G x.dat (φ x).dat) :
  Calls prog 172 #[v,fv] w0 (fV w0 G [] fun u G' L'=>∃ xs,bZ 76 7 u l.length xs L'∧bT G' 7 (l.map fun x=>(φ x).dat) xs):=by
 obtain ⟨A,c,rfl,hc1,hc2,hg⟩:=hv.slice
 have hml:4294967297≤maxLen:=by decide
 rw [bG] at *;refine iX (N:=22) (T:=[(0,_),(1,_)]) func172 rfl ntmps172 rfl rfl hO ?_;intro a H;refine kP H (SR fun _ K1=>ak K1 rfl (SR fun _ K2=>ak K2 rfl (SQ fun _ K3=>SR fun _ K4=>Rm rfl (Rl om rfl (Rm rfl (Kz K4 (SB ?_)))))));clear H K1 K2 K4;intro a H;skip;refine eU (ι:=Nat × aj × List aj × OL × GH) (Tc:=[(1,_),(8,_),(9,_)]) (Lc:=[]) (fun gh=>[(5,gh.2.1),(10,vi gh.1)]) (fun gh=>[]++gh.2.2.2.1) (fun gh=>gh.2.2.2.2) (fun gh=>gh.1≤l.length∧bZ 76 7 gh.2.1 gh.1 gh.2.2.1 gh.2.2.2.1∧bT gh.2.2.2.2 7 ((l.map fun x=>(φ x).dat).take gh.1) gh.2.2.1∧(∀ b o,G b=some o→gh.2.2.2.2 b=some o)) (fun gh=>l.length - gh.1) ((0,.slice none 0 0,[],[],G)) (by exact (H).sub ⟨rfl,rfl,rfl,rfl,rfl,aC⟩) ?_ ?_
 ·exact ⟨by omega,bZ.nil,by simpa using bT.nil,fun _ _ h=>h⟩
 clear H;rintro ⟨k,v,xs,Lo,g⟩ a w hI H;dsimp only at hI H;obtain ⟨hk,hrw,dP,hgm⟩:=hI;dsimp only [lca,bJ] at H;refine kP H (SR fun _ K5=>Rc rfl (Kz K5 (SQ fun _ K6=>Cd rfl ?_ ?_))) <;> clear H K5
 ·intro h11 a H
  try have oD:=dT h11
  have hk2:k < l.length:=by omega
  obtain ⟨b,o,cs,rfl,hcl,hrow,hrep⟩:=hg k l[k].dat (by simp [hk2]);obtain ⟨pA,pn,pc,dA,dn,dc,yA,yn,yc,fA,fn,fc,rfl,-⟩:=hrep.cell;replace hrow:=fun j u hj=>aJ hgm (hrow j u hj);refine kP H (Kc K6 (SQ fun _ K7=>SB (SR fun _ K8=>Ri om kI rfl rfl ?_)));clear H K6;intro a H;refine bL kI (cs:=[_,_,_,_,_,_,_]) H wn rfl rfl (fun j v hj=>H.hp.aI (hrow j v hj)) rfl ?_;clear H;intro a H;refine dS kI H wn rfl ?_;clear H;intro b7 a w CO H;refine bD kI 0 (vs:=[_,_,_,_,_,_,_]) _ H wn rfl rfl rfl rfl rfl rfl rfl rfl ?_;clear H;intro w H;dsimp only [List.set,setRow] at H;refine K8 _ _ ?_;clear K8;refine kP H (SC (Rm rfl (Rm rfl ?_)));clear H;intro a H;refine bL kI (cs:=[_,_,_,_,_,_,_]) H wn rfl rfl (H.hp.cO 0 rfl rfl) rfl ?_;clear H;intro a H;refine ko H wn rfl rfl (hf _ (kS hk2) _ _ _ hgm H.ro (hrep.mono hgm)) rfl ?_;clear H;rintro v17 vg a w ⟨zH,rfl,eX⟩ nN H;obtain ⟨cs,hcs⟩:∃ cs,cs=zH:=⟨_,rfl⟩;obtain ⟨pA,pn,pc,dA,dn,dc,yA,yn,yc,fA,fn,fc,wW,-⟩:=eX.cell;rw [wW] at H;refine iE om kI [_,_,_,_,_,_,_] [_,_,_,_,_,_,_] H wn rfl rfl rfl rfl rfl (by intro i q h;match i,h with|0,h=>exact h|n+1,h=>simp at h) rfl rfl ?_;clear H;intro b18 a w Nr H;refine nE (Li:=[_,_]) (Lo:=Lo) (news:=zH) om kI rfl rfl H wn rfl rfl hrw (by rw [wW];rfl) (by rw [wW];exact H.hp.cO 0 rfl rfl) eX.one (by omega) (by omega) rfl ?_;clear H;intro v19 Fg a w yZ H;refine kH H (bq K7 rfl (SC (Rd rfl (Rm rfl ?_))));clear H K7;intro a H;refine aD ?_;refine dD ((k+1,v19,xs++zH,Fg,vg)) (by exact (H.dY (Pl:=[_,_]) (dK:=[]) [] (by decide) rfl).sub ⟨rfl,rfl,rfl,rfl,rfl,aC⟩) ?_
  (try dsimp only);refine ⟨by omega,yZ,?_,fun b o h=>nN b o (hgm b o h)⟩;rw [iU (by simpa using hk2)];exact (dP.mono nN).snoc (by simpa using eX) (by rw [wW];rfl)
 intro h11 a H
 try have oD:=dF h11
 refine dV ?_;refine K3 _ _ ?_;clear K3;refine kP H (SR fun _ K9=>Rm rfl (ak K9 rfl ?_));clear H K9;intro a H;refine lr H results172 rfl ?_
 obtain rfl:k=l.length:=by omega
 exact H.hp.dx ⟨_,hrw,by rw [iC (by simp)] at dP;exact dP⟩
theorem XT (φ:aX→aX) (G:GH) (w0:World) (hG:Hold G w0) (l:List aX) (v fv:aj) (hv:av G (.sl 7 (l.map aX.dat)) v) (hz:l.length≤4294967296) (hf:∀ x∈l,Ca fv w0 G x.dat (φ x).dat) :
  Calls prog 172 #[v,fv] w0 (aZ w0 G fun u G'=>av G' (.sl 7 (l.map fun x=>(φ x).dat)) u):=Ia hG (afX φ G w0 (yC hG) l v fv hv hz hf) (by simp)
theorem afV (G:GH) (w0:World) (hG:Hold G w0) (l:List aX) (v fv:aj) (hv:av G (.sl 7 (l.map aX.dat)) v) (hz:l.length≤4294967296) (hf:∀ x∈l,Hg fv w0 G x.dat) :
  Calls prog 172 #[v,fv] w0 (aZ w0 G fun u G'=>av G' (.sl 7 (l.map aX.dat)) u):=XT (fun x=>x) G w0 hG l v fv hv hz hf
def EU (n:Nat):Prop:=∀ (G:GH) (w0:World),Hold G w0→∀ (l:List ay) (v:aj),av G (.sl 11 (l.map ay.dat)) v→bK l < n →
 Calls prog 80 #[v] w0 (aZ w0 G fun u G'=>av G' (.sl 11 (l.map ay.dat)) u)
theorem afc {n:Nat} (ih:EU n) (hn:n≤4294967296) (G:GH) (w0:World) (hG:Hold G w0) (x:aX) (cs:List aj) (hv:aU G x.dat cs) (hz:bX x.dat < n+1) :
  Calls prog 203 #[.agg cs.toArray] w0 (aZ w0 G fun u G'=>∃ cs',u=.agg cs'.toArray∧aU G' x.dat cs'):=by
 have he:=BU x;obtain ⟨pA,pn,pc,dA,dn,dc,yA,yn,yc,fA,fn,fc,rfl,hh,hf⟩:=hv.cell;refine eN [(0,_)] func203 rfl ntmps203 rfl rfl hG ?_;intro a H;refine cu (fun _ K1=>?_);refine dQ (cs:=[_,_,_,_,_,_,_]) H wn rfl rfl rfl ?_;clear H;intro b1 a w hb1 H;refine dS kI H wn rfl ?_;clear H;intro b2 a w hb2 H;refine K1 _ _ ?_;clear K1;refine bN (fun _ K2=>?_)
 have dN:Ch (fun (dB:Nat) (v:aj) (G:GH)=>match dB with|0=>v=(aK b1 0)|1=>v=vi x.id|2=>v=(aK b1 1)|3=>v=.agg #[.slice pA pn pc,vi x.head.marks.ins,vi x.head.marks.move,.slice dA dn dc,.slice yA yn yc]|4=>∃ p d l,v=.agg #[p,vi x.head.marks.ins,vi x.head.marks.move,d,l]∧jd G x.head p d l|5=>v=(aK b1 6)|6=>v=.slice fA fn fc|7=>av G (.sl 11 (x.flow.map ay.dat)) v|_=>True):=by intro dB v G G' hm h;(iterate 10 (rcases dB with _|dB;(first|exact h|exact let ⟨p,d,l,h1,h2⟩:=h;⟨p,d,l,h1,h2.mono hm⟩|exact av.mono hm h)));exact trivial
 refine Bb (hmx) [[],[0],[],[2],[2,3],[],[5],(ra 2 5),(ra 0 8),(ra 0 9)] [8,9] (by kernel_rfl) (by kernel_rfl) _ dN H ?_ ?_
 ·clear H;refine aF ?_ ?_ ?_ ?_ (aF ?_ ?_ ?_ ?_ (bR (bS rfl) (bR (bS rfl) dz)))
  ·refine dX [] rfl trivial (by kernel_rfl) dN rfl rfl ?_;intro bB a w G1 hG HT H fin;exact kH H (Rf J9 rfl fun _ H=>fin H iJ rfl)
  ·refine dX [(0,3,_)] rfl ⟨fun _ _ h=>h,aC⟩ (by kernel_rfl) dN rfl rfl ?_;intro bB a w G1 hG HT H fin;exact kH H (Ro aH 1 rfl fun _ H=>fin H iJ rfl)
  ·refine dX [] rfl trivial (by kernel_rfl) dN rfl rfl ?_;intro bB a w G1 hG HT H fin;exact kH H (Rf FK rfl fun _ H=>fin H iJ rfl)
  ·refine dX [(2,5,_)] rfl ⟨fun _ _ h=>h,aC⟩ (by kernel_rfl) dN rfl rfl ?_;intro bB a w G1 hG HT H fin;refine bL eu (cs:=[_,_,_,_,_]) H wn rfl rfl (H.hp.cO 1 rfl rfl) rfl ?_;clear H;intro a H;exact fin H iJ rfl
  ·refine dX [(3,6,_)] rfl ⟨fun _ _ h=>h,aC⟩ (by kernel_rfl) dN rfl rfl ?_;intro bB a w G1 hG HT H fin;refine s_call FD H wn rfl (Fz _ _ H.ro x.head _ _ _ _ _ _ _ _ _ (hh.mono hG) (by omega)) rfl ?_;clear H;rintro v7 G7 a w CZ Kl H;exact fin H Kl (CZ)
  ·refine dX [] rfl trivial (by kernel_rfl) dN rfl rfl ?_;intro bB a w G1 hG HT H fin;exact kH H (Rf FL rfl fun _ H=>fin H iJ rfl)
  ·refine dX [(5,8,_)] rfl ⟨fun _ _ h=>h,aC⟩ (by kernel_rfl) dN rfl rfl ?_;intro bB a w G1 hG HT H fin;exact kH H (Ro jc 1 rfl fun _ H=>fin H iJ rfl)
  refine dX [(6,9,_)] rfl ⟨fun _ _ h=>h,aC⟩ (by kernel_rfl) dN rfl rfl ?_;intro bB a w G1 hG HT H fin;refine s_call M4 H wn rfl (ih _ _ H.ro x.flow _ (hf.mono hG) (by omega)) rfl ?_;clear H;rintro v10 Ce a w tQ qU H;exact fin H qU (tQ)
 clear H;intro a w G nu H hv;have H:=H.aM (hv 1 4 rfl rfl) rfl;obtain ⟨u7,TH,CZ⟩:=hv 4 7 (by decide) rfl;(try dsimp only at CZ);obtain ⟨p7,d7,l7,rfl,CQ⟩:=CZ;obtain ⟨a1,a2,a3,rfl⟩:=CQ.props.form;obtain ⟨a4,a5,a6,rfl⟩:=CQ.bE.form;obtain ⟨a7,a8,a9,rfl⟩:=CQ.layers.form;have H:=H.jR TH;obtain ⟨u10,KS,tQ⟩:=hv 7 10 (by decide) rfl;(try dsimp only at tQ);obtain ⟨VE,n10,c10,rfl⟩:=tQ.form;have H:=H.jR KS;clear hv;refine jm Ve [_,_,_,_,_,_,_] H wn rfl rfl rfl rfl ?_;clear H;intro a H;refine bD kI 0 (vs:=[_,_,_,_,_,_,_]) _ H wn rfl rfl rfl rfl rfl rfl rfl rfl ?_;clear H;intro w H;dsimp only [List.set,setRow] at H;refine aD ⟨rfl,?_⟩;refine K2 _ _ ?_;clear K2;refine bW ?_;refine (leave1 H results203 (.cons (nQ kI (cs:=[_,_,_,_,_,_,_]) H rfl rfl (H.hp.cO 0 rfl rfl)) .nil) ?_).1;exact H.rt ⟨_,rfl,aU.Oe CQ tQ⟩
theorem afb {n:Nat} (ih:EU n) (hn:n≤4294967296) {G:GH} {w0:World} (x:aX) (hz:bX x.dat < n+1):Hg (.func (.func 203) #[] #[]) w0 G x.dat:=by
 intro G1 w1 cs hm1 hG1 hr;have h:=afc ih hn _ _ hG1 x cs hr hz;have h2:=jI (P:=prog) (caps:=[]) (args:=[.agg cs.toArray]) ahs h;exact h2
theorem afq {n:Nat} (ih:EU n) (hn:n≤4294967296) (G:GH) (w0:World) (hG:Hold G w0) (x:aW) (cs:List aj) (hv:aU G x.dat cs) (hz:bX x.dat < n+1) :
  Calls prog 142 #[.agg cs.toArray] w0 (aZ w0 G fun u G'=>∃ cs',u=.agg cs'.toArray∧aU G' x.dat cs'):=by
 have he:=BX x;have hl:=Ju x.cells;obtain ⟨pA,pn,pc,dA,dn,dc,yA,yn,yc,fA,fn,fc,rfl,hh,hf⟩:=hv.row;refine eN [(0,_)] func142 rfl ntmps142 rfl rfl hG ?_;intro a H;refine cu (fun _ K1=>?_);refine dQ (cs:=[_,_,_,_,_,_]) H wn rfl rfl rfl ?_;clear H;intro b1 a w hb1 H;refine dS jP H wn rfl ?_;clear H;intro b2 a w hb2 H;refine K1 _ _ ?_;clear K1;refine bN (fun _ K2=>?_)
 have dN:Ch (fun (dB:Nat) (v:aj) (G:GH)=>match dB with|0=>v=(aK b1 0)|1=>v=.agg #[.slice pA pn pc,vi x.head.marks.ins,vi x.head.marks.move,.slice dA dn dc,.slice yA yn yc]|2=>∃ p d l,v=.agg #[p,vi x.head.marks.ins,vi x.head.marks.move,d,l]∧jd G x.head p d l|3=>v=(aK b1 5)|4=>v=.slice fA fn fc|5=>av G (.sl 7 (x.cells.map aX.dat)) v|_=>True):=by intro dB v G G' hm h;(iterate 8 (rcases dB with _|dB;(first|exact h|exact let ⟨p,d,l,h1,h2⟩:=h;⟨p,d,l,h1,h2.mono hm⟩|exact av.mono hm h)));exact trivial
 refine Bb (hmx) [[],[0],[0,1],[],[3],(ra 0 5),(ra 0 6),(ra 0 7)] [6,7] (by kernel_rfl) (by kernel_rfl) _ dN H ?_ ?_
 ·clear H;refine aF ?_ ?_ ?_ ?_ (aF ?_ ?_ (bS rfl) (bS rfl) dz)
  ·refine dX [] rfl trivial (by kernel_rfl) dN rfl rfl ?_;intro bB a w G1 hG HT H fin;exact kH H (Rf FJ rfl fun _ H=>fin H iJ rfl)
  ·refine dX [(0,3,_)] rfl ⟨fun _ _ h=>h,aC⟩ (by kernel_rfl) dN rfl rfl ?_;intro bB a w G1 hG HT H fin;refine bL eu (cs:=[_,_,_,_,_]) H wn rfl rfl (H.hp.cO 1 rfl rfl) rfl ?_;clear H;intro a H;exact fin H iJ rfl
  ·refine dX [(1,4,_)] rfl ⟨fun _ _ h=>h,aC⟩ (by kernel_rfl) dN rfl rfl ?_;intro bB a w G1 hG HT H fin;refine s_call FD H wn rfl (Fz _ _ H.ro x.head _ _ _ _ _ _ _ _ _ (hh.mono hG) (by omega)) rfl ?_;clear H;rintro v5 G5 a w qX mK H;exact fin H mK (qX)
  ·refine dX [] rfl trivial (by kernel_rfl) dN rfl rfl ?_;intro bB a w G1 hG HT H fin;exact kH H (Rf vJ rfl fun _ H=>fin H iJ rfl)
  ·refine dX [(3,6,_)] rfl ⟨fun _ _ h=>h,aC⟩ (by kernel_rfl) dN rfl rfl ?_;intro bB a w G1 hG HT H fin;exact kH H (Ro wD 1 rfl fun _ H=>fin H iJ rfl)
  refine dX [(4,7,_)] rfl ⟨fun _ _ h=>h,aC⟩ (by kernel_rfl) dN rfl rfl ?_;intro bB a w G1 hG HT H fin;refine s_call X8 H wn rfl (afV _ _ H.ro x.cells _ _ (hf.mono hG) (by omega) (fun y hy=>afb ih hn y (by have:=adk hy;omega))) rfl ?_;clear H;rintro v8 G8 a w mO pV H;exact fin H pV (mO)
 clear H;intro a w G nu H hv;obtain ⟨u5,F9,qX⟩:=hv 2 5 (by decide) rfl;(try dsimp only at qX);obtain ⟨p5,d5,l5,rfl,sM⟩:=qX;obtain ⟨a1,a2,a3,rfl⟩:=sM.props.form;obtain ⟨a4,a5,a6,rfl⟩:=sM.bE.form;obtain ⟨a7,a8,a9,rfl⟩:=sM.layers.form;have H:=H.jR F9;obtain ⟨u8,Aa,mO⟩:=hv 5 8 (by decide) rfl;(try dsimp only at mO);obtain ⟨A8,n8,c8,rfl⟩:=mO.form;have H:=H.jR Aa;clear hv;refine jm Vd [_,_,_,_,_,_] H wn rfl rfl rfl rfl ?_;clear H;intro a H;refine bD jP 0 (vs:=[_,_,_,_,_,_]) _ H wn rfl rfl rfl rfl rfl rfl rfl rfl ?_;clear H;intro w H;dsimp only [List.set,setRow] at H;refine aD ⟨rfl,?_⟩;refine K2 _ _ ?_;clear K2;refine bW ?_;refine (leave1 H results142 (.cons (nQ jP (cs:=[_,_,_,_,_,_]) H rfl rfl (H.hp.cO 0 rfl rfl)) .nil) ?_).1;exact H.rt ⟨_,rfl,aU.Og sM mO⟩
theorem afp {n:Nat} (ih:EU n) (hn:n≤4294967296) {G:GH} {w0:World} (x:aW) (hz:bX x.dat < n+1):Hg (.func (.func 142) #[] #[]) w0 G x.dat:=by
 intro G1 w1 cs hm1 hG1 hr;have h:=afq ih hn _ _ hG1 x cs hr hz;have h2:=jI (P:=prog) (caps:=[]) (args:=[.agg cs.toArray]) agE h;exact h2
theorem afa {n:Nat} (ih:EU n) (hn:n≤4294967296) (G:GH) (w0:World) (hG:Hold G w0) (x:ay) (cs:List aj) (hv:aU G x.dat cs) (hz:bX x.dat < n+1) :
  Calls prog 141 #[.agg cs.toArray] w0 (aZ w0 G fun u G'=>∃ cs',u=.agg cs'.toArray∧aU G' x.dat cs'):=by
 have he:=xJ x;have hl:=Jv x.rows;obtain ⟨pA,pn,pc,dA,dn,dc,yA,yn,yc,fA,fn,fc,rA,rn,rc,rfl,hh,hf,hr⟩:=hv.item;refine eN [(0,_)] func141 rfl ntmps141 rfl rfl hG ?_;intro a H;refine cu (fun _ K1=>?_);refine dQ (cs:=[_,_,_,_,_,_,_,_,_,_,_]) H wn rfl rfl rfl ?_;clear H;intro b1 a w hb1 H;refine dS fG H wn rfl ?_;clear H;intro b2 a w hb2 H;refine K1 _ _ ?_;clear K1;refine bN (fun _ K2=>?_)
 have dN:Ch (fun (dB:Nat) (v:aj) (G:GH)=>match dB with|0=>v=(aK b1 4)|1=>v=.agg #[.slice pA pn pc,vi x.head.marks.ins,vi x.head.marks.move,.slice dA dn dc,.slice yA yn yc]|2=>∃ p d l,v=.agg #[p,vi x.head.marks.ins,vi x.head.marks.move,d,l]∧jd G x.head p d l|3=>v=(aK b1 9)|4=>v=.slice fA fn fc|5=>av G (.sl 11 (x.flow.map ay.dat)) v|6=>v=(aK b1 10)|7=>v=.slice rA rn rc|8=>av G (.sl 6 (x.rows.map aW.dat)) v|9=>v=(aK b1 4)|_=>True):=by intro dB v G G' hm h;(iterate 15 (rcases dB with _|dB;(first|exact h|exact let ⟨p,d,l,h1,h2⟩:=h;⟨p,d,l,h1,h2.mono hm⟩|exact av.mono hm h)));exact trivial
 refine Bb (hmx) [[],[0],[0,1],[],[3],(ra 0 5),[],[6],(ra 0 8),[0,1,2,3,4,6,7],(ra 0 10),(ra 0 11),(ra 0 12),(ra 0 13),(ra 0 14)] (ra 10 5) (by kernel_rfl) (by kernel_rfl) _ dN H ?_ ?_
 ·clear H;refine aF ?_ ?_ ?_ ?_ (aF ?_ ?_ ?_ ?_ (aF ?_ ?_ (bS rfl) (bS rfl) (bR (bS rfl) (bR (bS rfl) (bR (bS rfl) dz)))))
  ·refine dX [] rfl trivial (by kernel_rfl) dN rfl rfl ?_;intro bB a w G1 hG HT H fin;exact kH H (Rf vI rfl fun _ H=>fin H iJ rfl)
  ·refine dX [(0,3,_)] rfl ⟨fun _ _ h=>h,aC⟩ (by kernel_rfl) dN rfl rfl ?_;intro bB a w G1 hG HT H fin;refine bL eu (cs:=[_,_,_,_,_]) H wn rfl rfl (H.hp.cO 1 rfl rfl) rfl ?_;clear H;intro a H;exact fin H iJ rfl
  ·refine dX [(1,4,_)] rfl ⟨fun _ _ h=>h,aC⟩ (by kernel_rfl) dN rfl rfl ?_;intro bB a w G1 hG HT H fin;refine s_call FD H wn rfl (Fz _ _ H.ro x.head _ _ _ _ _ _ _ _ _ (hh.mono hG) (by omega)) rfl ?_;clear H;rintro v5 G5 a w qX mK H;exact fin H mK (qX)
  ·refine dX [] rfl trivial (by kernel_rfl) dN rfl rfl ?_;intro bB a w G1 hG HT H fin;exact kH H (Rf zK rfl fun _ H=>fin H iJ rfl)
  ·refine dX [(3,6,_)] rfl ⟨fun _ _ h=>h,aC⟩ (by kernel_rfl) dN rfl rfl ?_;intro bB a w G1 hG HT H fin;exact kH H (Ro jc 1 rfl fun _ H=>fin H iJ rfl)
  ·refine dX [(4,7,_)] rfl ⟨fun _ _ h=>h,aC⟩ (by kernel_rfl) dN rfl rfl ?_;intro bB a w G1 hG HT H fin;refine s_call M4 H wn rfl (ih _ _ H.ro x.flow _ (hf.mono hG) (by omega)) rfl ?_;clear H;rintro v8 G8 a w mO pV H;exact fin H pV (mO)
  ·refine dX [] rfl trivial (by kernel_rfl) dN rfl rfl ?_;intro bB a w G1 hG HT H fin;exact kH H (Rf qP rfl fun _ H=>fin H iJ rfl)
  ·refine dX [(6,9,_)] rfl ⟨fun _ _ h=>h,aC⟩ (by kernel_rfl) dN rfl rfl ?_;intro bB a w G1 hG HT H fin;exact kH H (Ro rF 1 rfl fun _ H=>fin H iJ rfl)
  ·refine dX [(7,10,_)] rfl ⟨fun _ _ h=>h,aC⟩ (by kernel_rfl) dN rfl rfl ?_;intro bB a w G1 hG HT H fin;refine s_call XW H wn rfl (afZ _ _ H.ro x.rows _ _ (hr.mono hG) (by omega) (fun y hy=>afp ih hn y (by have:=adq hy;omega))) rfl ?_;clear H;rintro v11 sw a w tT lQ H;exact fin H lQ (tT)
  refine dX [] rfl trivial (by kernel_rfl) dN rfl rfl ?_;intro bB a w G1 hG HT H fin;exact kH H (Rf vI rfl fun _ H=>fin H iJ rfl)
 clear H;intro a w G nu H hv;obtain ⟨u5,F9,qX⟩:=hv 2 5 (by decide) rfl;(try dsimp only at qX);obtain ⟨p5,d5,l5,rfl,sM⟩:=qX;obtain ⟨a1,a2,a3,rfl⟩:=sM.props.form;obtain ⟨a4,a5,a6,rfl⟩:=sM.bE.form;obtain ⟨a7,a8,a9,rfl⟩:=sM.layers.form;have H:=H.jR F9;obtain ⟨u8,Aa,mO⟩:=hv 5 8 (by decide) rfl;(try dsimp only at mO);obtain ⟨A8,n8,c8,rfl⟩:=mO.form;have H:=H.jR Aa;obtain ⟨Vp,F8,tT⟩:=hv 8 11 (by decide) rfl;(try dsimp only at tT);obtain ⟨Pv,n11,c11,rfl⟩:=tT.form;have H:=H.jR F8;have H:=H.aM (hv 9 12 rfl rfl) rfl;clear hv;refine bD eu 1 (vs:=[_,_,_,_,_]) _ H wn rfl rfl rfl rfl rfl rfl rfl rfl ?_;clear H;intro w H;dsimp only [List.set,setRow] at H;refine kH H (Rf zK rfl ?_);clear H;intro a H;refine bD jc 1 (vs:=[_]) _ H wn rfl rfl rfl rfl rfl rfl rfl rfl ?_;clear H;intro w H;dsimp only [List.set,setRow] at H;refine kH H (Rf qP rfl ?_);clear H;intro a H;refine bD rF 1 (vs:=[_]) _ H wn rfl rfl rfl rfl rfl rfl rfl rfl ?_;clear H;intro w H;dsimp only [List.set,setRow] at H;refine aD ⟨rfl,?_⟩;refine K2 _ _ ?_;clear K2;refine cu (fun _ K3=>?_);refine bL fG (cs:=[_,_,_,_,_,_,_,_,_,_,_]) H wn rfl rfl (H.hp.cO 1 rfl rfl) rfl ?_;clear H;intro a H;refine bD fG 0 (vs:=[_,_,_,_,_,_,_,_,_,_,_]) _ H wn rfl rfl rfl rfl rfl rfl rfl rfl ?_;clear H;intro w H;dsimp only [List.set,setRow] at H;refine K3 _ _ ?_;clear K3;refine bW ?_;refine (leave1 H results141 (.cons (nQ fG (cs:=[_,_,_,_,_,_,_,_,_,_,_]) H rfl rfl (H.hp.cO 0 rfl rfl)) .nil) ?_).1;exact H.rt ⟨_,rfl,aU.mkItem sM mO tT⟩
theorem Xq {n:Nat} (ih:EU n) (hn:n≤4294967296) {G:GH} {w0:World} (x:ay) (hz:bX x.dat < n+1):Hg (.func (.func 141) #[] #[]) w0 G x.dat:=by
 intro G1 w1 cs hm1 hG1 hr;have h:=afa ih hn _ _ hG1 x cs hr hz;have h2:=jI (P:=prog) (caps:=[]) (args:=[.agg cs.toArray]) agD h;exact h2
theorem MN:∀ n:Nat,n≤4294967297→EU n
 | 0,_=>fun _ _ _ _ _ _ h=>absurd h (by omega)
 | n+1,hn=>by
  intro G w0 hG l v hv hz;have ih:=MN n (by omega);have hl:=DI l;refine eN [(0,_)] func80 rfl ntmps80 rfl rfl hG ?_;intro a H;refine kP H (SR fun _ K1=>ak K1 rfl (SR fun _ K2=>Rm rfl ?_));clear H K1;intro a H;refine s_call X5 H wn rfl (afW _ _ H.ro l _ _ hv (by omega) (fun y hy=>Xq ih (by omega) y (by have:=VA hy;omega))) rfl ?_;clear H;rintro v4 G4 a w KL CJ H;exact kH H (ak K2 rfl (LR results80 rfl fun H=>H.rt KL))
theorem afs (G:GH) (w0:World) (hG:Hold G w0) (l:List ay) (v:aj) (hv:av G (.sl 11 (l.map ay.dat)) v) (hz:bK l≤4294967296) :
  Calls prog 80 #[v] w0 (aZ w0 G fun u G'=>av G' (.sl 11 (l.map ay.dat)) u):=MN 4294967297 (by omega) G w0 hG l v hv (by omega)
section
section
variable {P:Program} {N:Nat} {D:List Deferred} {w0 w w':World} {F:Nat→Prop} {G0 G G':GH} {L L' Li Lo:OL} {T:List (Nat × aj)} {a a':Act} {Q:Exit→Act→World→Prop}
theorem St.cast (h:St N D w0 F G0 G L T a w) (e:L=L'):St N D w0 F G0 G L' T a w:=e ▸ h
theorem St.assoc {A B C:OL} (h:St N D w0 F G0 G ((A++B)++C) T a w):St N D w0 F G0 G (A++(B++C)) T a w:=h.cast (iW _ _ _)
theorem St.un {A B C:OL} (h:St N D w0 F G0 G (A++(B++C)) T a w):St N D w0 F G0 G ((A++B)++C) T a w:=h.cast (iW _ _ _).symm
theorem St.I4 {A B:OL} (h:St N D w0 F G0 G (A++B) T a w):St N D w0 F G0 G (A++(B++[])) T a w:=h.cast (by rw [jf])
theorem Qn {ι κ:Type} {Lc:OL} {zM:Operand} {ps:List Nat} {assign body:Code} {gf:FuncId} {caps:List aj} {xs:List AP} {Gi:GH}
  (Lv:Nat→ι→OL) (Lt:Nat→ι→OL) (inv:Nat→ι→GH→Prop) (cx:κ→Code) (Lx Fj:κ→OL) (Ad:κ→GH→Prop) (i0:ι)
  (H:St N D w0 F G0 G (Lc++Lv 0 i0++Lt 0 i0) T a w) (hg:ev T zM=some (.func (.func gf) #[] caps.toArray)) (en:∀ args w,(callFunc gf args).run P w=.ok (.enter gf args) w) (hit:Iter P Gi (.func (.func gf) #[] caps.toArray) xs) (hGi:∀ b o,Gi b=some o→G b=some o)
  (hps:ps.all (Nat.blt · N)=true) (hlen:∀ k args g,wG xs k args g→args.length=ps.length) (hinv:∀ k i (G G':GH),(∀ b o,G b=some o→G' b=some o)→inv k i G→inv k i G') (Tf:∀ x (G G':GH),(∀ b o,G b=some o→G' b=some o)→Ad x G→Ad x G') (h0:inv 0 i0 G)
  (round:∀ (l:Nat) (Dm zG:Obj) (bk:OL) (k:Nat) (args:List aj) (i:ι) (G1:GH) (w1:World) (F1:Nat→Prop) (B1:Code→Exit→Act→World→Prop) (a1:Act),wG xs k args G1→(∀ b o,G b=some o→G1 b=some o)→inv k i G1 →
   (∀ T' G2 L2 a2 w2 c,St N [] w1 F1 G1 G2 ((l,Dm) :: L2) T' a2 w2→(∀ w3,St N [] w1 F1 G1 G2 ((l,zG) :: L2) T' a2 w3→WP (some l) P c (B1 c) a2 w3)→Exit.then (fun a2 w2=>∃ w3,(Instr.beginRound l).run P w2=.ok () w3∧c.wpIn (FW (some l)) 0 P (B1 c) a2 w3) (fun _ _ _=>False) .normal a2 w2) →
   (∀ i' T' G2 a2 w2 c,St N [] w1 F1 G1 G2 ((l,zG) :: (Lc++Lv (k+1) i'++(bk++Lt (k+1) i'))) T' a2 w2→inv (k+1) i' G2→B1 c .normal a2 w2) →
   (∀ x T' G2 a2 w2 c,St N [] w1 F1 G1 G2 ((l,zG) :: (Lc++Lx x++(bk++Fj x))) T' a2 w2→Ad x G2→(cx x=.ret→B1 c .ret a2 w2)∧∀ n,cx x=.exit n→B1 c (.exit n) a2 w2) →
   St N [] w1 F1 G1 G1 ((l,Dm) :: (Lc++Lv k i++(bk++Lt k i))) (yS ps args T) a1 w1 →
   WP (some l) P assign (Exit.then (fun a2 w2=>∃ w3,(Instr.beginRound l).run P w2=.ok () w3∧body.wpIn (FW (some l)) 0 P (B1 body) a2 w3) (fun _ _ _=>False)) a1 w1)
  (hdone:∀ Dk i G1 a1 w1,(∀ b o,G b=some o→G1 b=some o)→inv xs.length i G1→St N ({ target:=.collected Dk,args:=#[] } :: D) w0 F G0 G1 ((Dk,.deferred (some [])) :: (Lc++Lv xs.length i++Lt xs.length i)) T a1 w1→Q .normal a1 w1)
  (hstop:∀ Dk x G1 a1 w1,(∀ b o,G b=some o→G1 b=some o)→Ad x G1→St N ({ target:=.collected Dk,args:=#[] } :: D) w0 F G0 G1 ((Dk,.deferred (some [])) :: (Lc++Lx x++Fj x)) T a1 w1→WP none P (cx x) Q a1 w1) :
  WP none P (.rangeFunc zM ps.toArray assign body) Q a w:=by
 refine aer (J:=fun k g L=>∃ i,L=Lc++Lv k i++Lt k i∧inv k i g) (Jx:=fun c g L=>∃ x,c=cx x∧L=Lc++Lx x++Fj x∧Ad x g) H hg en hit hGi hps hlen (fun k G G' L hm ⟨i,e,h⟩=>⟨i,e,hinv k i G G' hm h⟩) (fun c G G' L hm ⟨x,e1,e2,h⟩=>⟨x,e1,e2,Tf x G G' hm h⟩) ⟨i0,rfl,h0⟩ ?_ ?_ ?_
 ·rintro l q bk k args G1 L1 w1 a1 hk hm ⟨i,rfl,hi⟩ H1
  have pm:∀ A B:OL,(bk++(A++B)).Perm (A++(bk++B)):=fun A B=>by
   rw [← iW,← iW]
   exact List.Perm.append_right B vw
  refine round l (q.at .ready none) (q.at .busy none) bk k args i G1 w1 _ (fun _=>roundPost P l _) a1 hk hm hi ?_ ?_ ?_ (H1.perm (List.Perm.cons _ (pm _ _)))
  ·intro T' G2 L2 a2 w2 c H2 h
   exact Xg H2 h
  ·intro i' T' G2 a2 w2 c H2 h2
   exact I9 none (H2.perm (List.Perm.cons _ (pm _ _).symm)) ⟨_,rfl,i',rfl,h2⟩
  ·intro x T' G2 a2 w2 c H2 h2
   have H3:=H2.perm (List.Perm.cons _ (pm _ _).symm)
   refine ⟨fun e=>?_,fun n e=>?_⟩
   ·exact I9 (some .ret) H3 ⟨_,_,rfl,x,e.symm,rfl,h2⟩
   ·exact I9 (some (.exit n)) H3 ⟨_,_,rfl,x,e.symm,rfl,h2⟩
 ·rintro Dk G1 L1 a1 w1 hm ⟨i,rfl,hi⟩ H1
  exact hdone Dk i G1 a1 w1 hm hi H1
 ·rintro Dk c G1 L1 a1 w1 hm ⟨x,rfl,rfl,hx⟩ H1
  exact hstop Dk x G1 a1 w1 hm hx H1
def Uq (ds:List Nat):List Deferred:=ds.map fun b=>{ target:=.collected b,args:=#[] }
def Gx (ds:List Nat):OL:=ds.map fun b=>(b,.deferred (some []))
theorem aep {r:Option Nat} {ι:Type} {c:Code} {Tc:List (Nat × aj)} {Lc:List (Nat × Obj)} (Dv:ι→List Deferred) (Tv:ι→List (Nat × aj)) (Lv:ι→List (Nat × Obj)) (Gv:ι→GH) (Pr:ι→Prop) (m:ι→Nat) (i0:ι)
  (H:St N (Dv i0) w0 F G0 (Gv i0) (Lc++Lv i0) (Tv i0++Tc) a w) (hP:Pr i0)
  (round:∀ i a w,Pr i→St N (Dv i) w0 F G0 (Gv i) (Lc++Lv i) (Tv i++Tc) a w →
   WP r P c (Exit.then (fun a' w'=>∃ i',(St N (Dv i') w0 F G0 (Gv i') (Lc++Lv i') (Tv i'++Tc) a' w'∧Pr i')∧m i' < m i) Q) a w):WP r P (.loop c) Q a w :=
 Xi (fun i a w=>St N (Dv i) w0 F G0 (Gv i) (Lc++Lv i) (Tv i++Tc) a w∧Pr i) m i0 ⟨H,hP⟩ fun i a w hI=>round i a w hI.2 hI.1
theorem ang {ι:Type} {Dv:ι→List Deferred} {Tc:List (Nat × aj)} {Lc:List (Nat × Obj)} {Tv:ι→List (Nat × aj)} {Lv:ι→List (Nat × Obj)} {Gv:ι→GH} {Pr:ι→Prop} {m:ι→Nat} {i:ι} (i':ι)
  (H:St N (Dv i') w0 F G0 (Gv i') (Lc++Lv i') (Tv i'++Tc) a w) (hP:Pr i') (hm:m i' < m i) :
  ∃ i',(St N (Dv i') w0 F G0 (Gv i') (Lc++Lv i') (Tv i'++Tc) a w∧Pr i')∧m i' < m i:=⟨i',⟨H,hP⟩,hm⟩
theorem Ug {fn:Func} {R:Ending→World→Prop} {Lh Lt:OL}:∀ (ds:List Nat) {a:Act} {w:World},St N (Uq ds) w0 F G0 G (Lh++(Gx ds++Lt)) T a w →
  (∀ a' w',St N [] w0 F G0 G (Lh++Lt) T a' w'→bodyPostM (FW none) 0 P fn R .ret a' w')→bodyPostM (FW none) 0 P fn R .ret a w∧bodyPostM (FW none) 0 P fn R .normal a w
 | [],a,w,H,k=>⟨k a w H,k a w H⟩
 | b :: ds,a,w,H,k=>by
  refine IX (b:=b) (D:=Uq ds) H Lh.length (by rw [sV (bM _),Nat.sub_self];rfl) fun a' w' H'=>?_
  refine (Ug ds (Lh:=Lh) (Lt:=Lt) (H'.cast ?_) k).1
  rw [List.eraseIdx_append_of_length_le (bM _),Nat.sub_self];rfl
end
end
def n1 (x:ay):Nat:=if BS x=0 then iO x else 0
theorem aaD (x:ay):yx [x]=n1 x:=by
 simp only [yx,xQ,n1,rY,List.all_cons,List.all_nil,Bool.and_true,mH]
 split <;> simp_all
theorem anu (x:ay):n1 x < bX x.dat:=by
 have h1:=xJ x;have h2:=MQ x.text
 unfold n1 iO;split <;> (try split) <;> omega
theorem av.len {G:GH} {sz:Nat} {rows:List (List Dat)} {A:Option Addr} {n c:Nat} (h:av G (.sl sz rows) (.slice A n c)):n=rows.length:=h.cells.1
theorem av.at_ {G:GH} {sz:Nat} {rows:List (List Dat)} {A:Option Addr} {n c:Nat} (h:av G (.sl sz rows) (.slice A n c)):∀ k r,rows[k]?=some r→∃ b o cs,A=some ⟨b,o,none⟩∧cs.length=sz∧(∀ j u,cs[j]?=some u→aI G b (o+k*sz+j)=some u)∧aU G r cs:=by
 obtain ⟨A2,c2,e,_,_,hg⟩:=h.slice
 cases e;exact hg
theorem Le {G:GH} {l:List aW} {A:Option Addr} {k:Nat} (hk:k < l.length) (hg:∀ k r,(l.map aW.dat)[k]?=some r→∃ b o cs,A=some ⟨b,o,none⟩∧cs.length=6∧(∀ j u,cs[j]?=some u→aI G b (o+k*6+j)=some u)∧aU G r cs) :
  ∃ b o pA pn pc dA dn dc yA yn yc cA cn cc,A=some ⟨b,o,none⟩∧(∀ j u,[.slice pA pn pc,vi l[k].head.marks.ins,vi l[k].head.marks.move,.slice dA dn dc,.slice yA yn yc,.slice cA cn cc][j]?=some u→aI G b (o+k*6+j)=some u) ∧
   jd G l[k].head (.slice pA pn pc) (.slice dA dn dc) (.slice yA yn yc)∧av G (.sl 7 (l[k].cells.map aX.dat)) (.slice cA cn cc):=by
 obtain ⟨b,o,cs,h1,h2,h3,h4⟩:=hg k l[k].dat (by simp [hk]);obtain ⟨pA,pn,pc,dA,dn,dc,yA,yn,yc,cA,cn,cc,rfl,h5,h6⟩:=h4.row;exact ⟨b,o,pA,pn,pc,dA,dn,dc,yA,yn,yc,cA,cn,cc,h1,h3,h5,h6⟩
theorem Ib {G:GH} {l:List aX} {A:Option Addr} {k:Nat} (hk:k < l.length) (hg:∀ k r,(l.map aX.dat)[k]?=some r→∃ b o cs,A=some ⟨b,o,none⟩∧cs.length=7∧(∀ j u,cs[j]?=some u→aI G b (o+k*7+j)=some u)∧aU G r cs) :
  ∃ b o pA pn pc dA dn dc yA yn yc fA fn fc,A=some ⟨b,o,none⟩∧(∀ j u,[vi l[k].id,.slice pA pn pc,vi l[k].head.marks.ins,vi l[k].head.marks.move,.slice dA dn dc,.slice yA yn yc,.slice fA fn fc][j]?=some u→aI G b (o+k*7+j)=some u) ∧
   jd G l[k].head (.slice pA pn pc) (.slice dA dn dc) (.slice yA yn yc)∧av G (.sl 11 (l[k].flow.map ay.dat)) (.slice fA fn fc):=by
 obtain ⟨b,o,cs,h1,h2,h3,h4⟩:=hg k l[k].dat (by simp [hk]);obtain ⟨pA,pn,pc,dA,dn,dc,yA,yn,yc,fA,fn,fc,rfl,h5,h6⟩:=h4.cell;exact ⟨b,o,pA,pn,pc,dA,dn,dc,yA,yn,yc,fA,fn,fc,h1,h3,h5,h6⟩
structure jV where
 (f p d y r s1 s2 s3 s4:Option Addr × Nat × Nat)
 (ins move:Int)
abbrev cB (x:Option Addr × Nat × Nat):aj:=.slice x.1 x.2.1 x.2.2
abbrev jV.cells (D:jV):List aj:=[cB D.f,cB D.p,vi D.ins,vi D.move,cB D.d,cB D.y,cB D.r,cB D.s1,cB D.s2,cB D.s3,cB D.s4]
abbrev jV.val (D:jV):aj:=.agg D.cells.toArray
theorem QT:∀ args w,(callFunc 202 args).run prog w=.ok (.enter 202 args) w:=enters func202 rfl (by kernel_rfl)
theorem O1:Ty prog 129 3 16 [.bool false,.bool false,.int .i64 0] true:=⟨by kernel_rfl,by kernel_rfl⟩
theorem aqS:pK prog 146 [(0,1),(1,3)] [.slice none 0 0,.bool false,.bool false,.int .i64 0]:=⟨by kernel_rfl,by kernel_rfl⟩
theorem J8:dH prog 68 2 2:=⟨by kernel_rfl⟩
theorem JY:dH prog 129 2 2:=⟨by kernel_rfl⟩
theorem EO:pK prog 129 [(0,1),(1,1),(2,1)] [.bool false,.bool false,.int .i64 0]:=⟨by kernel_rfl,by kernel_rfl⟩
theorem Q7:dH prog 129 1 1:=⟨by kernel_rfl⟩
theorem oI:Ty prog 4 1 1 [.bool false] false:=⟨by kernel_rfl,by kernel_rfl⟩
theorem vG:dH prog 38 0 0:=⟨by kernel_rfl⟩
theorem agB:∀ args w,(callFunc 139 args).run prog w=.ok (.enter 139 args) w:=enters func139 rfl (by kernel_rfl)
theorem Yb:∀ args w,(callFunc 201 args).run prog w=.ok (.enter 201 args) w:=enters func201 rfl (by kernel_rfl)
structure lC where
 id:Int
 items:List ay
 body:Bool
 note:Bool
 tables:Int
mutual
def Dz (note:Bool) (t:Int):ay→List lC
 | .mk k _ i _ _ f r=>if k=6 then ⟨i,f,false,true,t⟩ :: kN true t f else if k=7 then uZ note t r else []
def kN (note:Bool) (t:Int):List ay→List lC
 | []=>[]
 | x :: l=>Dz note t x++kN note t l
def uZ (note:Bool) (t:Int):List aW→List lC
 | []=>[]
 | r :: l=>DC note t r++uZ note t l
def DC (note:Bool) (t:Int):aW→List lC
 | .mk _ cs=>wF note t cs
def wF (note:Bool) (t:Int):List aX→List lC
 | []=>[]
 | c :: l=>Dy note t c++wF note t l
def Dy (note:Bool) (t:Int):aX→List lC
 | .mk i _ f=>⟨i,f,false,note,t+1⟩ :: kN note (t+1) f
end
theorem arU (note:Bool) (t:Int) (x:ay):Dz note t x=if x.kind=6 then ⟨x.id,x.flow,false,true,t⟩ :: kN true t x.flow else if x.kind=7 then uZ note t x.rows else []:=by cases x;rw [Dz];rfl
theorem arW (note:Bool) (t:Int) (x:aW):DC note t x=wF note t x.cells:=by cases x;rw [DC];rfl
theorem arS (note:Bool) (t:Int) (x:aX):Dy note t x=⟨x.id,x.flow,false,note,t+1⟩ :: kN note (t+1) x.flow:=by cases x;rw [Dy];rfl
def Cq (a:lC):AP:=fun args g=>∃ v,args=[vi a.id,.agg #[v,.bool a.body,.bool a.note,vi a.tables]]∧av g (.sl 11 (a.items.map ay.dat)) v
def Qd (n:Nat):Prop:=∀ (fv:aj) (Gi:GH) (xs:List AP) (J:Nat→GH→OL→Prop) (Jx:GH→OL→Prop) (G:GH) (L:OL) (w0:World) (j:Nat) (l:List ay) (id:Int) (body note:Bool) (t:Int) (v:aj),
 (∀ b o,Gi b=some o→G b=some o)→Jw prog fv Gi xs J Jx→E9 J→Hz Jx→J j G L→gD G L w0→av G (.sl 11 (l.map ay.dat)) v→bK l < n→0≤t→t+bK l≤4294967296→(∀ i a,(⟨id,l,body,note,t⟩ :: kN note t l)[i]?=some a→xs[j+i]?=some (Cq a)) →
 Calls prog 202 #[vi id,v,.agg #[.bool body,.bool note,vi t],fv] w0 (fV w0 G L fun u G' L'=>∃ b,u=.bool b∧(b=true→J (j+((kN note t l).length+1)) G' L')∧(b=false→Jx G' L'))
set_option maxHeartbeats 1000000 in
theorem arY {n:Nat} (ih:Qd n) (hn:n≤4294967296):Qd (n+1):=by
 intro fv Gi xs J Jx G L w0 j0 l id body note t v hGi hcb tJ hJx hJ0 hO hv hz ht0 ht1 hx0;obtain ⟨A,c,rfl,hc1,hc2,hg⟩:=hv.slice;rw [bG] at *;have hll:=DI l;have IK:Now xs Cq J (j0+((kN note t l).length+1)) j0 (⟨id,l,body,note,t⟩ :: kN note t l) G L:=⟨hJ0,hx0,rfl⟩;refine iX (N:=74) (T:=[(0,_),(1,_),(2,_),(3,_)]) func202 rfl ntmps202 rfl rfl hO ?_;intro a H;refine cu (fun _ K1=>?_);refine dQ (cs:=[_,_,_]) H wn rfl rfl rfl ?_;clear H;intro b6 a w hb6 H;refine kH H (ak K1 rfl (SQ fun _ K2=>SR fun _ K3=>Rm rfl (Rm rfl (Rm rfl ?_))));clear H K1;intro a H;refine bL O1 (cs:=[_,_,_]) H wn rfl rfl (H.hp.cO 0 rfl rfl) rfl ?_;clear H;intro a H;refine jm aqS [_,_,_,_] H wn rfl rfl rfl rfl ?_;clear H;intro a H;refine Aj (Li:=[_]) (L:=L) H wn rfl rfl (hcb _ _ _ _ _ ⟨_,IK.head,_,rfl,hv⟩ hGi IK.now (Hp.owns (Li:=[_]) H.hp)) rfl ?_;clear H;rintro v20 EZ JD a w ⟨b20,rfl,hb1,hb2⟩ qB H;refine kH H (Rn rfl (Kz K3 (Cd rfl ?_ ?_))) <;> clear H K3
 ·intro h21 a H
  try have wB:=dT h21
  refine kP H (SR fun _ K4=>ak K4 rfl ?_);clear H K4;intro a H;refine lr H results202 rfl ?_
  first
   | exact H.hp.iq (L':=JD) (by repeat (first|exact gT _|apply List.Sublist.cons)) ⟨_,rfl,fun e=>(by cases e),fun _=>hb2 (by simpa using h21)⟩
   | exact H.hp.iq (L':=Fh) (by repeat (first|exact gT _|apply List.Sublist.cons)) ⟨_,rfl,fun e=>(by cases e),fun _=>hb4 (by simpa using Ei)⟩
   | exact H.hp.iq (L':=JE) (by repeat (first|exact gT _|apply List.Sublist.cons)) ⟨_,rfl,fun e=>(by cases e),fun _=>hb6 (by simpa using xY)⟩
   | exact H.hp.iq (L':=Lt) (by repeat (first|exact gT _|apply List.Sublist.cons)) ⟨_,rfl,fun _=>(by rw [jC (by omega),kN] at eP;have:=eP.len;simp only [List.length_nil,uy] at this;rw [← this];exact eP.now),fun e=>(by cases e)⟩
 intro h21 a H
 try have wB:=dF h21
 refine kP H (Kc K2 (SQ fun _ K5=>SR fun _ K6=>Rm rfl (Rl iF rfl (Rm rfl (Kz K6 (SB ?_))))));clear H K2 K6;intro a H;skip;refine eU (ι:=Nat × Nat × OL × GH) (Tc:=[(3,_),(6,_),(22,_),(23,_)]) (Lc:=[(_,_)]) (fun gh=>[(24,vi gh.1)]) (fun gh=>[]++gh.2.2.1) (fun gh=>gh.2.2.2) (fun gh=>gh.1≤l.length∧(∀ b o,G b=some o→gh.2.2.2 b=some o)∧Now xs Cq J (j0+((kN note t l).length+1)) gh.2.1 (kN note t (l.drop gh.1)) gh.2.2.2 gh.2.2.1) (fun gh=>l.length - gh.1) ((0,j0+1,JD,EZ)) (by exact (H).sub ⟨rfl,rfl,rfl,rfl,rfl,aC⟩) ?_ ?_
 ·exact ⟨by omega,qB,IK.step (hb1 (by simpa using h21))⟩
 clear H;rintro ⟨k,j1,Lt,g⟩ a w hI H;dsimp only at hI H;obtain ⟨hk,hgm,eP⟩:=hI;dsimp only [lca,bJ] at H;refine kP H (SR fun _ K7=>Rc rfl (Kz K7 (SQ fun _ K8=>Cd rfl ?_ ?_))) <;> clear H K7
 ·intro gY a H
  try have p25:=dT gY
  have hk2:k < l.length:=by omega
  obtain ⟨b,o,pA,pn,pc,dA,dn,dc,yA,yn,yc,fA,fn,fc,rA,rn,rc,rfl,hrow,hhd,hfl,hrw⟩:=Bh hk2 hg;replace hrow:=fun j u hj=>aJ hgm (hrow j u hj);have hrn:=hrw.len;rw [bG] at hrn;subst hrn;have hrs:=Jv l[k].rows;have hsz1:=Pm hk2;rw [ng hk2] at eP
  simp only [kN,arU] at eP
  refine kP H (Kc K8 (SQ fun _ K9=>SB (SR fun _ aR=>Ri iF fG rfl rfl ?_)));clear H K8;intro a H;refine bL fG (cs:=[_,_,_,_,_,_,_,_,_,_,_]) H wn rfl rfl (fun j v hj=>H.hp.aI (hrow j v hj)) rfl ?_;clear H;intro a H;refine dS fG H wn rfl ?_;clear H;intro b10 a w Zj H;refine bD fG 0 (vs:=[_,_,_,_,_,_,_,_,_,_,_]) _ H wn rfl rfl rfl rfl rfl rfl rfl rfl ?_;clear H;intro w H;dsimp only [List.set,setRow] at H;refine aR _ _ ?_;clear aR;refine kP H (SR fun _ bQ=>aY jZ aH 0 rfl rfl (Kz bQ (SB (SR fun _ bY=>Rc rfl (ak bY rfl (Cd rfl ?_ ?_)))))) <;> clear H bQ bY
  ·intro ow a H
   try have p30:=dT ow
   rw [au p30] at eP;refine kP H (SR fun _ cZ=>aY J8 aH 0 rfl rfl (aY zK jc 0 rfl rfl (aY JY aH 1 rfl rfl ?_)));clear H;intro a H;refine jm EO [_,_,_] H wn rfl rfl rfl rfl ?_;clear H;intro a H;refine kH H (Rm rfl ?_);clear H;intro a H;refine gH QT (Li:=[_,_]) (L:=Lt) H wn rfl (ih fv Gi xs J Jx _ _ _ j1 l[k].flow l[k].id false true t _ (fun b o h=>hgm b o (hGi b o h)) hcb tJ hJx eP.now (Hp.owns (Li:=[_,_]) H.hp) (hfl.mono hgm) (by omega) ht0 (by omega) eP.part) rfl ?_;clear H;rintro v40 Jy Fh a w ⟨b40,rfl,hb3,hb4⟩ CW H;refine kH H (Rn rfl (Kz cZ (Cd rfl ?_ ?_))) <;> clear H cZ
   ·intro Ei a H
    try have p41:=dT Ei
    refine kP H (SR fun _ dG=>ak dG rfl ?_);clear H dG;intro a H;refine lr H results202 rfl ?_
    first
     | exact H.hp.iq (L':=JD) (by repeat (first|exact gT _|apply List.Sublist.cons)) ⟨_,rfl,fun e=>(by cases e),fun _=>hb2 (by simpa using h21)⟩
     | exact H.hp.iq (L':=Fh) (by repeat (first|exact gT _|apply List.Sublist.cons)) ⟨_,rfl,fun e=>(by cases e),fun _=>hb4 (by simpa using Ei)⟩
     | exact H.hp.iq (L':=JE) (by repeat (first|exact gT _|apply List.Sublist.cons)) ⟨_,rfl,fun e=>(by cases e),fun _=>hb6 (by simpa using xY)⟩
     | exact H.hp.iq (L':=Lt) (by repeat (first|exact gT _|apply List.Sublist.cons)) ⟨_,rfl,fun _=>(by rw [jC (by omega),kN] at eP;have:=eP.len;simp only [List.length_nil,uy] at this;rw [← this];exact eP.now),fun e=>(by cases e)⟩
   intro Ei a H
   try have p41:=dF Ei
   refine kP H (Kc K9 (SC (Rd rfl (Rm rfl ?_))));clear H K9;intro a H;refine aD ?_;refine dD ((k+1,j1+((kN true t l[k].flow).length+1),Fh,Jy)) (by exact (H.dY (Pl:=[_,_]) (dK:=[_]) [1] (by decide) rfl).sub ⟨rfl,rfl,rfl,rfl,rfl,aC⟩) ?_
   (try dsimp only);exact ⟨by omega,fun b o h=>CW b o (hgm b o h),eP.jump (hb3 (by simpa using Ei))⟩
  intro ow a H
  try have p30:=dF ow
  refine kP H (SR fun _ dZ=>Rc rfl (ak dZ rfl (Cd rfl ?_ ?_))) <;> clear H dZ
  ·intro jw a H
   try have p42:=dT jw
   rw [ah p30,au p42] at eP;refine kP H (SR fun _ eB=>aY qP rF 0 rfl rfl (Rl mX rfl (Rm rfl (Kz eB (SB ?_)))));clear H eB;intro a H;skip;refine eU (ι:=Nat × Nat × OL × GH) (Tc:=[(3,_),(6,_),(22,_),(23,_),(24,_),(45,_),(46,_)]) (Lc:=[(_,_),(_,_)]) (fun gh=>[(47,vi gh.1)]) (fun gh=>[]++gh.2.2.1) (fun gh=>gh.2.2.2) (fun gh=>gh.1≤l[k].rows.length∧(∀ b o,G b=some o→gh.2.2.2 b=some o)∧Now xs Cq J (j0+((kN note t l).length+1)) gh.2.1 (uZ note t (l[k].rows.drop gh.1)++kN note t (l.drop (k+1))) gh.2.2.2 gh.2.2.1) (fun gh=>l[k].rows.length - gh.1) ((0,j1,Lt,g)) (by exact (H).sub ⟨rfl,rfl,rfl,rfl,rfl,rfl,rfl,rfl,aC⟩) ?_ ?_
   ·exact ⟨by omega,hgm,eP⟩
   clear H;rintro ⟨rk,j3,Lt3,g3⟩ a w hI H;dsimp only at hI H;obtain ⟨hrk,sK,sN⟩:=hI;dsimp only [lca,bJ] at H;refine kP H (SR fun _ dW=>Rc rfl (Kz dW (SQ fun _ fC=>Cd rfl ?_ ?_))) <;> clear H dW
   ·intro h48 a H
    try have p48:=dT h48
    have hk3:rk < l[k].rows.length:=by omega
    obtain ⟨b2,o2,qA,qn,qc,eA,en,ec,zA,zn,zc,cA,cn,cc,rfl,hrow,Ez,hcl⟩:=Le hk3 hrw.at_;replace hrow:=fun j u hj=>aJ sK (hrow j u hj);have hcn:=hcl.len;rw [bG] at hcn;subst hcn;have hsz2:=Pn hk3;have hcs:=Ju l[k].rows[rk].cells;rw [ng hk3] at sN
    simp only [uZ,arW,iW] at sN
    refine kP H (Kc fC (SQ fun _ gQ=>SB (SR fun _ fM=>Ri mX jP rfl rfl ?_)));clear H fC;intro a H;refine bL jP (cs:=[_,_,_,_,_,_]) H wn rfl rfl (fun j v hj=>H.hp.aI (hrow j v hj)) rfl ?_;clear H;intro a H;refine dS jP H wn rfl ?_;clear H;intro b12 a w FU H;refine bD jP 0 (vs:=[_,_,_,_,_,_]) _ H wn rfl rfl rfl rfl rfl rfl rfl rfl ?_;clear H;intro w H;dsimp only [List.set,setRow] at H;refine fM _ _ ?_;clear fM;refine kP H (SR fun _ gV=>aY vJ wD 0 rfl rfl (Rl om rfl (Rm rfl (Kz gV (SB ?_)))));clear H gV;intro a H;skip;refine eU (ι:=Nat × Nat × OL × GH) (Tc:=[(3,_),(6,_),(22,_),(23,_),(24,_),(45,_),(46,_),(47,_),(52,_),(53,_)]) (Lc:=[(_,_),(_,_),(_,_)]) (fun gh=>[(54,vi gh.1)]) (fun gh=>[]++gh.2.2.1) (fun gh=>gh.2.2.2) (fun gh=>gh.1≤l[k].rows[rk].cells.length∧(∀ b o,G b=some o→gh.2.2.2 b=some o)∧Now xs Cq J (j0+((kN note t l).length+1)) gh.2.1 (wF note t (l[k].rows[rk].cells.drop gh.1)++(uZ note t (l[k].rows.drop (rk+1))++kN note t (l.drop (k+1)))) gh.2.2.2 gh.2.2.1) (fun gh=>l[k].rows[rk].cells.length - gh.1) ((0,j3,Lt3,g3)) (by exact (H).sub ⟨rfl,rfl,rfl,rfl,rfl,rfl,rfl,rfl,rfl,rfl,rfl,aC⟩) ?_ ?_
    ·exact ⟨by omega,sK,sN⟩
    clear H;rintro ⟨ck,j4,Lt4,g4⟩ a w hI H;dsimp only at hI H;obtain ⟨hck,Bq,vW⟩:=hI;dsimp only [lca,bJ] at H;refine kP H (SR fun _ jo=>Rc rfl (Kz jo (SQ fun _ lD=>Cd rfl ?_ ?_))) <;> clear H jo
    ·intro nk a H
     try have p55:=dT nk
     have hk4:ck < l[k].rows[rk].cells.length:=by omega
     obtain ⟨b3,o3,sA,sn,sc,tA,tn,tc,uA,un,uc,gA,gn,gc,rfl,hrow,hch,hcf⟩:=Ib hk4 hcl.at_;replace hrow:=fun j u hj=>aJ Bq (hrow j u hj);have amk:=Pk hk4;rw [ng hk4] at vW
     simp only [wF,arS,iW] at vW
     refine kP H (Kc lD (SQ fun _ kX=>SB (SR fun _ kC=>Ri om kI rfl rfl ?_)));clear H lD;intro a H;refine bL kI (cs:=[_,_,_,_,_,_,_]) H wn rfl rfl (fun j v hj=>H.hp.aI (hrow j v hj)) rfl ?_;clear H;intro a H;refine dS kI H wn rfl ?_;clear H;intro b14 a w Np H;refine bD kI 0 (vs:=[_,_,_,_,_,_,_]) _ H wn rfl rfl rfl rfl rfl rfl rfl rfl ?_;clear H;intro w H;dsimp only [List.set,setRow] at H;refine kC _ _ ?_;clear kC;refine kP H (SR fun _ lK=>aY J9 aH 0 rfl rfl (aY FL jc 0 rfl rfl (aY Q7 oI 3 rfl rfl (aY JY aH 3 rfl rfl (Rd rfl ?_)))));clear H;intro a H;refine jm EO [_,_,_] H wn rfl rfl rfl rfl ?_;clear H;intro a H;refine kH H (Rm rfl ?_);clear H;intro a H;refine gH QT (Li:=[_,_,_,_]) (L:=Lt4) H wn rfl (ih fv Gi xs J Jx _ _ _ j4 l[k].rows[rk].cells[ck].flow l[k].rows[rk].cells[ck].id false note (t+1) _ (fun b o h=>Bq b o (hGi b o h)) hcb tJ hJx vW.now (Hp.owns (Li:=[_,_,_,_]) H.hp) (hcf.mono Bq) (by omega) (by omega) (by omega) vW.part) rfl ?_;clear H;rintro v69 G69 JE a w ⟨b69,rfl,hb5,hb6⟩ alx H;refine kH H (Rn rfl (Kz lK (Cd rfl ?_ ?_))) <;> clear H lK
     ·intro xY a H
      try have p70:=dT xY
      refine kP H (SR fun _ lM=>ak lM rfl ?_);clear H lM;intro a H;refine lr H results202 rfl ?_
      first
       | exact H.hp.iq (L':=JD) (by repeat (first|exact gT _|apply List.Sublist.cons)) ⟨_,rfl,fun e=>(by cases e),fun _=>hb2 (by simpa using h21)⟩
       | exact H.hp.iq (L':=Fh) (by repeat (first|exact gT _|apply List.Sublist.cons)) ⟨_,rfl,fun e=>(by cases e),fun _=>hb4 (by simpa using Ei)⟩
       | exact H.hp.iq (L':=JE) (by repeat (first|exact gT _|apply List.Sublist.cons)) ⟨_,rfl,fun e=>(by cases e),fun _=>hb6 (by simpa using xY)⟩
       | exact H.hp.iq (L':=Lt) (by repeat (first|exact gT _|apply List.Sublist.cons)) ⟨_,rfl,fun _=>(by rw [jC (by omega),kN] at eP;have:=eP.len;simp only [List.length_nil,uy] at this;rw [← this];exact eP.now),fun e=>(by cases e)⟩
     intro xY a H
     try have p70:=dF xY
     refine kP H (Kc kX (SC (Rd rfl (Rm rfl ?_))));clear H kX;intro a H;refine aD ?_;refine dD ((ck+1,j4+((kN note (t+1) l[k].rows[rk].cells[ck].flow).length+1),JE,G69)) (by exact (H.dY (Pl:=[_,_,_,_]) (dK:=[_,_,_]) [1,2,3] (by decide) rfl).sub ⟨rfl,rfl,rfl,rfl,rfl,rfl,rfl,rfl,rfl,rfl,rfl,aC⟩) ?_
     (try dsimp only);exact ⟨by omega,fun b o h=>alx b o (Bq b o h),vW.jump (hb5 (by simpa using xY))⟩
    intro nk a H
    try have p55:=dF nk
    refine dV ?_;refine gQ _ _ ?_;clear gQ;refine kP H (SC (Rd rfl (Rm rfl ?_)));clear H;intro a H;refine aD ?_;refine dD ((rk+1,j4,Lt4,g4)) (by exact (H.dY (Pl:=[_,_,_]) (dK:=[_,_]) [1,2] (by decide) rfl).sub ⟨rfl,rfl,rfl,rfl,rfl,rfl,rfl,rfl,aC⟩) ?_
    (try dsimp only);exact ⟨by omega,Bq,by rw [jC (by omega),wF,mZ] at vW;exact vW⟩
   intro h48 a H
   try have p48:=dF h48
   refine dV ?_;refine K9 _ _ ?_;clear K9;refine kP H (SC (Rd rfl (Rm rfl ?_)));clear H;intro a H;refine aD ?_;refine dD ((k+1,j3,Lt3,g3)) (by exact (H.dY (Pl:=[_,_]) (dK:=[_]) [1] (by decide) rfl).sub ⟨rfl,rfl,rfl,rfl,rfl,aC⟩) ?_
   (try dsimp only);exact ⟨by omega,sK,by rw [jC (by omega),uZ,mZ] at sN;exact sN⟩
  intro jw a H
  try have p42:=dF jw
  refine kP H (Kc K9 (SC (Rd rfl (Rm rfl ?_))));clear H K9;intro a H;refine aD ?_;refine dD ((k+1,j1,Lt,g)) (by exact (H.dY (Pl:=[_,_]) (dK:=[_]) [1] (by decide) rfl).sub ⟨rfl,rfl,rfl,rfl,rfl,aC⟩) ?_
  (try dsimp only);exact ⟨by omega,hgm,by rw [ah p30,ah p42,mZ] at eP;exact eP⟩
 intro gY a H
 try have p25:=dF gY
 refine dV ?_;refine K5 _ _ ?_;clear K5;refine kP H (SR fun _ jL=>ak jL rfl ?_);clear H jL;intro a H;refine lr H results202 rfl ?_
 first
  | exact H.hp.iq (L':=JD) (by repeat (first|exact gT _|apply List.Sublist.cons)) ⟨_,rfl,fun e=>(by cases e),fun _=>hb2 (by simpa using h21)⟩
  | exact H.hp.iq (L':=Fh) (by repeat (first|exact gT _|apply List.Sublist.cons)) ⟨_,rfl,fun e=>(by cases e),fun _=>hb4 (by simpa using Ei)⟩
  | exact H.hp.iq (L':=JE) (by repeat (first|exact gT _|apply List.Sublist.cons)) ⟨_,rfl,fun e=>(by cases e),fun _=>hb6 (by simpa using xY)⟩
  | exact H.hp.iq (L':=Lt) (by repeat (first|exact gT _|apply List.Sublist.cons)) ⟨_,rfl,fun _=>(by rw [jC (by omega),kN] at eP;have:=eP.len;simp only [List.length_nil,uy] at this;rw [← this];exact eP.now),fun e=>(by cases e)⟩
theorem acY:∀ n:Nat,n≤4294967297→Qd n
 | 0,_=>fun _ _ _ _ _ _ _ _ _ _ _ _ _ _ _ _ _ _ _ _ _ _ h=>absurd h (by omega)
 | n+1,hn=>arY (acY n (by omega)) (by omega)
def Bj (l:List ay):List lC:=⟨0,l,true,false,0⟩ :: kN false 0 l
theorem ajA {G:GH} {ba bl bp:Nat} {l:List ay} {v:aj} {id t:Int} {body note:Bool} (h1:aI G ba 0=some (vi id)) (h2:aI G bl 0=some v) (h3:G bp=some (.cells #[.bool body,.bool note,vi t] 129 (0,0))) (hv:av G (.sl 11 (l.map ay.dat)) v) (hz:bK l≤4294967296) (ht0:0≤t) (ht1:t+bK l≤4294967296) :
  Iter prog G (.func (.func 201) #[] #[(aK ba 0),(aK bl 0),(aK bp 0)]) ((⟨id,l,body,note,t⟩ :: kN note t l).map Cq):=by
 intro J Jx fv G1 L w0 S9 hGi tJ hJx hJ hO hcb;refine jI (caps:=[(aK ba 0),(aK bl 0),(aK bp 0)]) Yb ?_;replace h1:=aJ hGi h1;replace h2:=aJ hGi h2
 have hrow:∀ j u,[.bool body,.bool note,vi t][j]?=some u→aI G1 bp (0+j)=some u:=by
  intro j u hj;refine aJ hGi ?_
  unfold aI;rw [h3];simpa using hj
 refine iX (N:=10) (T:=[(0,_),(1,_),(2,_),(3,_)]) func201 rfl ntmps201 rfl rfl hO ?_;intro a H;refine kP H (SC (Rg aH rfl (by assumption) ?_));clear H;intro a H;refine kH H (Rg jc rfl (by assumption) ?_);clear H;intro a H;refine bL O1 (cs:=[_,_,_]) H wn rfl rfl (fun j v hj=>H.hp.aI (hrow j v hj)) rfl ?_;clear H;intro a H;refine kH H (Rm rfl ?_);clear H;intro a H;refine gH QT (Li:=[]) (L:=L) H wn rfl (acY 4294967297 (by omega) _ G1 _ J Jx G1 _ _ 0 l id body note t _ (fun _ _ h=>h) hcb tJ hJx hJ (Hp.owns (Li:=[]) H.hp) (hv.mono hGi) (by omega) ht0 ht1 (fun i a h=>by rw [gI,pQ,h];rfl)) rfl ?_;clear H;rintro v9 G9 L9 a w ⟨b9,rfl,h1,h2⟩ tN H;refine aD ?_;refine (leave0 H results201 ?_).2
 cases b9
 ·exact H.hp.dx (.inr (h2 rfl))
 exact H.hp.dx (.inl (by simpa using h1 rfl))
theorem ajB (G:GH) (w0:World) (hG:Hold G w0) (l:List ay) (v:aj) (id t:Int) (body note:Bool) (hv:av G (.sl 11 (l.map ay.dat)) v) (hz:bK l≤4294967296) (ht0:0≤t) (ht1:t+bK l≤4294967296) :
  Calls prog 139 #[vi id,v,.agg #[.bool body,.bool note,vi t]] w0 (aZ w0 G fun u G'=>∃ ba bl bp,u=.func (.func 201) #[] #[(aK ba 0),(aK bl 0),(aK bp 0)]∧Iter prog G' u ((⟨id,l,body,note,t⟩ :: kN note t l).map Cq)):=by
 obtain ⟨A,c,rfl,hc1,hc2,hg⟩:=hv.slice;refine eN [(0,_),(1,_),(2,_)] func139 rfl ntmps139 rfl rfl hG ?_;intro a H;refine cu (fun _ K1=>?_);refine dQ (cs:=[_]) H wn rfl rfl rfl ?_;clear H;intro b3 a w hb3 H;refine dQ (cs:=[_]) H wn rfl rfl rfl ?_;clear H;intro b4 a w hb4 H;refine dQ (cs:=[_,_,_]) H wn rfl rfl rfl ?_;clear H;intro b5 a w hb5 H;refine kH H (ak K1 rfl (SR fun _ K2=>?_));clear H K1;intro a H;refine oZ H wn rfl rfl ?_;clear H;intro a H;refine kH H (ak K2 rfl ?_);clear H K2;intro a H;refine bW ?_;obtain ⟨G2,hm2,hb5,H⟩:=H.eH;obtain ⟨G3,KC,hb4,H⟩:=H.eH;obtain ⟨G4,Bu,hb3,H⟩:=H.eH;refine lv H results139 rfl ?_;exact H.rt ⟨b3,b4,b5,rfl,ajA (by unfold aI;rw [hb3];rfl) (aJ Bu (by unfold aI;rw [hb4];rfl)) (Bu _ _ (KC _ _ hb5)) (hv.mono fun b o h=>Bu _ _ (KC _ _ (hm2 _ _ h))) hz ht0 ht1⟩
theorem anU (G:GH) (w0:World) (hG:Hold G w0) (D:jV) (l:List ay) (hv:av G (.sl 11 (l.map ay.dat)) (cB D.f)) (hz:bK l≤4294967296) :
  Calls prog 79 #[D.val] w0 (aZ w0 G fun u G'=>∃ ba bl bp,u=.func (.func 201) #[] #[(aK ba 0),(aK bl 0),(aK bp 0)]∧Iter prog G' u ((Bj l).map Cq)):=by
 refine eN [(0,_)] func79 rfl ntmps79 rfl rfl hG ?_;intro a H;refine cu (fun _ K1=>?_);refine dQ (cs:=[_,_,_,_,_,_,_,_,_,_,_]) H wn rfl rfl rfl ?_;clear H;intro b1 a w hb1 H;refine kH H (ak K1 rfl (SR fun _ K2=>aY vG jc 0 rfl rfl ?_));clear H K1;intro a H;refine jm EO [_,_,_] H wn rfl rfl rfl rfl ?_;clear H;intro a H;refine s_call agB H wn rfl (ajB _ _ H.ro l _ 0 0 true false hv hz (by omega) (by omega)) rfl ?_;clear H;rintro v6 G6 a w ⟨ba,bl,bp,rfl,hit⟩ Er H;exact kH H (ak K2 rfl (LR results79 rfl fun H=>H.rt ⟨ba,bl,bp,rfl,hit⟩))
theorem kG:Ty prog 38 11 232 [.slice none 0 0,.slice none 0 0,.int .i64 0,.int .i64 0,.slice none 0 0,.slice none 0 0,.slice none 0 0,.slice none 0 0,.slice none 0 0,.slice none 0 0,.slice none 0 0] true:=⟨by kernel_rfl,by kernel_rfl⟩
theorem aiA:∀ args w,(callFunc 79 args).run prog w=.ok (.enter 79 args) w:=enters func79 rfl (by kernel_rfl)
theorem acC:Ty prog 146 4 40 [.slice none 0 0,.bool false,.bool false,.int .i64 0] true:=⟨by kernel_rfl,by kernel_rfl⟩
theorem ajd:dH prog 146 0 0:=⟨by kernel_rfl⟩
mutual
theorem arV {note:Bool} {t:Int} {f:lC}:∀ {x:ay},f∈Dz note t x→bK f.items < bX x.dat
 | .mk k c i tx h fl r,hf=>by
  have h4:=xJ (.mk k c i tx h fl r)
  simp only [ay.text,ay.head,ay.flow,ay.rows] at h4
  rw [Dz] at hf
  split at hf
  ·rcases jS.1 hf with rfl|hf
   ·show bK fl < _;omega
   have:=Pb hf;omega
  split at hf
  ·have:=acX hf;omega
  cases hf
theorem Pb {note:Bool} {t:Int} {f:lC}:∀ {l:List ay},f∈kN note t l→bK f.items≤bK l
 | [],hf=>by simp [kN] at hf
 | x :: l,hf=>by
  rw [kN] at hf
  simp only [bK,fK,dU]
  rcases nH.1 hf with hf|hf
  ·have:=arV hf;simp only [bK] at this;omega
  have:=Pb hf;simp only [bK] at this;omega
theorem acX {note:Bool} {t:Int} {f:lC}:∀ {l:List aW},f∈uZ note t l→bK f.items≤gZ l
 | [],hf=>by simp [uZ] at hf
 | x :: l,hf=>by
  rw [uZ] at hf
  simp only [gZ,fK,dU]
  rcases nH.1 hf with hf|hf
  ·have:=arX hf;simp only [bK] at *;omega
  have:=acX hf;simp only [bK,gZ] at *;omega
theorem arX {note:Bool} {t:Int} {f:lC}:∀ {x:aW},f∈DC note t x→bK f.items≤bX x.dat
 | .mk h cs,hf=>by
  have h4:=BX (.mk h cs)
  simp only [aW.head,aW.cells] at h4
  rw [DC] at hf;have:=acW hf;omega
theorem acW {note:Bool} {t:Int} {f:lC}:∀ {l:List aX},f∈wF note t l→bK f.items≤iP l
 | [],hf=>by simp [wF] at hf
 | x :: l,hf=>by
  rw [wF] at hf
  simp only [iP,fK,dU]
  rcases nH.1 hf with hf|hf
  ·have:=arT hf;simp only [bK] at *;omega
  have:=acW hf;simp only [bK,iP] at *;omega
theorem arT {note:Bool} {t:Int} {f:lC}:∀ {x:aX},f∈Dy note t x→bK f.items≤bX x.dat
 | .mk i h fl,hf=>by
  have h4:=BU (.mk i h fl)
  simp only [aX.head,aX.flow] at h4
  rw [Dy] at hf
  rcases jS.1 hf with rfl|hf
  ·show bK fl≤_;omega
  have:=Pb hf;omega
end
theorem Y2 {f:lC} {l:List ay} (h:f∈Bj l):bK f.items≤bK l:=by
 rcases jS.1 h with rfl|h
 ·exact bM _
 exact Pb h
def qQ (l:List ay) (id:Int):Option (List ay):=((Bj l).find? fun f=>decide (f.id=id)).map lC.items
theorem ajz {f:List ay} {l:List ay} {id:Int} (h:qQ l id=some f):bK f≤bK l:=by
 obtain ⟨a,ha,rfl⟩:=ou.1 h;exact Y2 (List.mem_of_find?_eq_some ha)
theorem ajq {α:Type} {p:α→Bool} {A:List α} {k:Nat} (hk:k < A.length) (h:(A.take k).find? p=none) (hp:p A[k]=false):(A.take (k+1)).find? p=none:=by
 rw [iU hk,List.find?_append,h]
 simp [hp]
theorem ajr {α:Type} {p:α→Bool} {A:List α} {k:Nat} (hk:k < A.length) (h:(A.take k).find? p=none) (hp:p A[k]=true):A.find? p=some A[k]:=by
 have e:A.find? p=(A.take k++A.drop k).find? p:=by rw [List.take_append_drop]
 rw [e,List.find?_append,h,ng hk,List.find?_cons,hp]
 rfl
theorem YT {α:Type} {p:α→Bool} {A:List α} (h:(A.take A.length).find? p=none):A.find? p=none:=by rwa [xL] at h
theorem YX {A:List lC} {k:Nat} {args:List aj} {g:GH} (h:wG (A.map Cq) k args g):∃ (hk:k < A.length) (a:Option Addr) (n c:Nat),args=[vi A[k].id,.agg #[.slice a n c,.bool A[k].body,.bool A[k].note,vi A[k].tables]]∧av g (.sl 11 (A[k].items.map ay.dat)) (.slice a n c):=by
 obtain ⟨p,hp,hargs⟩:=h;rw [pQ] at hp;obtain ⟨q,hq,rfl⟩:=ou.1 hp;obtain ⟨hk,rfl⟩:=jB.1 hq;obtain ⟨v,h1,h2⟩:=hargs;obtain ⟨a,n,c,rfl⟩:=h2.form;exact ⟨hk,a,n,c,h1,h2⟩
theorem Y1 (G:GH) (w0:World) (hG:Hold G w0) (D:jV) (l:List ay) (id:Int) (hv:av G (.sl 11 (l.map ay.dat)) (cB D.f)) (hz:bK l≤4294967296) :
  Calls prog 28 #[D.val,vi id] w0 (aZ w0 G fun u G'=>∃ v,u=.tuple #[v,.bool (qQ l id).isSome]∧av G' (.sl 11 (((qQ l id).getD []).map ay.dat)) v):=by
 refine eN [(0,_),(1,_)] func28 rfl ntmps28 rfl rfl hG ?_;intro a H;refine cu (fun _ K1=>?_);refine dQ (cs:=[_,_,_,_,_,_,_,_,_,_,_]) H wn rfl rfl rfl ?_;clear H;intro b2 a w hb2 H;refine dQ (cs:=[_]) H wn rfl rfl rfl ?_;clear H;intro b3 a w hb3 H;refine dS jc H wn rfl ?_;clear H;intro b4 a w hb4 H;refine dS oI H wn rfl ?_;clear H;intro b5 a w hb5 H;refine K1 _ _ ?_;clear K1;refine bN (fun _ K2=>?_);refine cu (fun _ K3=>?_);refine bL kG (cs:=[_,_,_,_,_,_,_,_,_,_,_]) H wn rfl rfl (H.hp.cO 3 rfl rfl) rfl ?_;clear H;intro a H;refine s_call aiA H wn rfl (anU _ _ H.ro D l hv hz) rfl ?_;clear H;rintro v9 G9 a w ⟨ba,bl,bp,rfl,hit⟩ tN H;refine K3 _ _ ?_;clear K3;refine Cn ?_;skip;refine Qn (ι:=Unit) (κ:=aj) (Lc:=[(_,_),(_,_)]) (fun (k:Nat) (gh:Unit)=>[(b4,.cells #[.slice none 0 0] 22 (0,0)),(b5,.cells #[.bool false] 4 (0,0))]) (fun (k:Nat) (gh:Unit)=>[]) (fun (k:Nat) (gh:Unit) (g:GH)=>((Bj l).take k).find? (fun f=>decide (f.id=id))=none) (fun (gx:aj)=>Code.ret) (fun (gx:aj)=>[(b4,.cells #[gx] 22 (0,0)),(b5,.cells #[.bool true] 4 (0,0))]) (fun (gx:aj)=>[]) (fun (gx:aj) (g:GH)=>∃ f,qQ l id=some f∧av g (.sl 11 (f.map ay.dat)) gx) (()) (by exact H.dY (Pl:=[_,_,_,_]) (dK:=[_,_,_,_]) [2,3,1,0] (by decide) rfl) rfl Yb (hit) (fun _ _ h=>h) rfl (fun k args g h=>by obtain ⟨_,_,_,_,rfl,_⟩:=YX h;rfl) (fun _ _ _ _ _ h=>h) (fun x G G' hm h=>let ⟨f,h1,h2⟩:=h;⟨f,h1,h2.mono hm⟩) (rfl) ?_ ?_ ?_
 ·clear H;intro l2 Dm zG bk k args gh G2 w2 F2 B2 a hk2 hm2 hI SG Tm aag H;obtain ⟨hk,vA,vn,vc,rfl,hrep⟩:=YX hk2;dsimp only [yS,List.cons_append,List.nil_append] at H;refine kP H (SR fun _ K4=>ak K4 rfl (SC ?_));clear H K4;intro a H;refine dS acC H wn rfl ?_;clear H;intro b7 a w CO H;refine bD acC 0 (vs:=[_,_,_,_]) _ H wn rfl rfl rfl rfl rfl rfl rfl rfl ?_;clear H;intro w H;dsimp only [List.set,setRow] at H;refine aD ?_;refine SG _ _ _ _ _ _ (by exact H.dY (Pl:=[_,_,_,_,_,_]) (dK:=[_,_,_,_,_,_]) [1,0,2,3,4,5] (by decide) rfl) ?_;clear H;intro w H;refine kP H (SB (SR fun _ K5=>Rm rfl (Ro aH 2 rfl (Rc rfl (Kz K5 (Cd rfl ?_ ?_)))))) <;> clear H K5
  ·intro gX a H
   try have sP:=dT gX
   refine kP H (SR fun _ K6=>aY ajd jc 1 rfl rfl ?_);clear H;intro a H;refine s_call M4 H wn rfl (afs _ _ H.ro _ _ hrep (by have:=Y2 (kS hk);omega)) rfl ?_;clear H;rintro v17 vg a w Ew nN H;obtain ⟨Px,n17,c17,rfl⟩:=Ew.form;refine bD jc 4 (vs:=[_]) _ H wn rfl rfl rfl rfl rfl rfl rfl rfl ?_;clear H;intro w H;dsimp only [List.set,setRow] at H;refine bD oI 5 (vs:=[_]) _ H wn rfl rfl rfl rfl rfl rfl rfl rfl ?_;clear H;intro w H;dsimp only [List.set,setRow] at H;refine K6 _ _ ?_;clear K6;refine bW ?_;refine (aag (.slice Px n17 c17) _ _ _ _ _ (by exact H.dY (Pl:=[_,_,_,_,_,_]) (dK:=[_,_,_,_,_]) [0,2,3,4,5] (by decide) rfl) ?_).1 rfl;exact ⟨_,by unfold qQ;rw [ajr hk hI gX];rfl,Ew⟩
  intro gX a H
  refine gU ?_;refine Tm (()) _ _ _ _ _ (by exact H.dY (Pl:=[_,_,_,_,_,_]) (dK:=[_,_,_,_,_]) [0,2,3,4,5] (by decide) rfl) ?_;exact ajq hk hI gX
 ·clear H;intro VJ gh V5 a w hm2 hI H;dsimp only [lca,bJ] at H;refine K2 _ _ ?_;clear K2;refine cu (fun _ K7=>?_);refine bD jc 3 (vs:=[_]) _ H wn rfl rfl rfl rfl rfl rfl rfl rfl ?_;clear H;intro w H;dsimp only [List.set,setRow] at H;refine bD oI 4 (vs:=[_]) _ H wn rfl rfl rfl rfl rfl rfl rfl rfl ?_;clear H;intro w H;dsimp only [List.set,setRow] at H;refine K7 _ _ ?_;clear K7;refine bW ?_;refine (IX H 0 rfl ?_).1;clear H;intro a w H;dsimp only [List.eraseIdx_cons_succ,List.eraseIdx_cons_zero] at H;refine (eY H results28 (.cons (yG jc H rfl (H.hp.oW 2 rfl rfl)) (.cons (yG oI H rfl (H.hp.oW 3 rfl rfl)) .nil)) ?_).1;exact H.rt ⟨_,by unfold qQ;rw [YT (by simpa using hI)];rfl,by unfold qQ;rw [YT (by simpa using hI)];exact av.lg rfl (by decide)⟩
 clear H;intro VJ x V5 a w hm2 hI H;dsimp only [lca,bJ] at H;obtain ⟨f,hf,hrep⟩:=hI;obtain ⟨xA,xn,xc,rfl⟩:=hrep.form;refine bW ?_;refine (IX H 0 rfl ?_).1;clear H;intro a w H;dsimp only [List.eraseIdx_cons_succ,List.eraseIdx_cons_zero] at H;refine (eY H results28 (.cons (yG jc H rfl (H.hp.oW 2 rfl rfl)) (.cons (yG oI H rfl (H.hp.oW 3 rfl rfl)) .nil)) ?_).1;exact H.rt ⟨_,by rw [hf];rfl,by rw [hf];exact hrep⟩
theorem Ac {α:Type} {p:α→Bool} {A:List α} {k:Nat} (hk:k < A.length) (h:(A.take k).findIdx? p=none) (hp:p A[k]=false):(A.take (k+1)).findIdx? p=none:=by
 rw [List.findIdx?_eq_none_iff] at h ⊢;rw [iU hk];intro x hx
 rcases nH.1 hx with hx|hx
 ·exact h x hx
 rw [uE.1 hx];exact hp
theorem pY {α:Type} {p:α→Bool} {A:List α} {k:Nat} (hk:k < A.length) (h:(A.take k).findIdx? p=none) (hp:p A[k]=true):A.findIdx? p=some k:=by
 have e:A.findIdx? p=(A.take k++A.drop k).findIdx? p:=by rw [List.take_append_drop]
 rw [e,List.findIdx?_append,h,ng hk,List.findIdx?_cons,hp]
 simp;omega

theorem X7:∀ args w,(callFunc 171 args).run prog w=.ok (.enter 171 args) w:=enters func171 rfl (by kernel_rfl)
theorem aht:∀ args w,(callFunc 204 args).run prog w=.ok (.enter 204 args) w:=enters func204 rfl (by kernel_rfl)
def pO (fv:aj) (G:GH) (d:List Dat) (b:Bool):Prop:=∀ (G1:GH) (w1:World) (cs:List aj),(∀ b o,G b=some o→G1 b=some o)→Hold G1 w1→aU G1 d cs →
 sj prog fv [.agg cs.toArray] w1 (aZ w1 G1 fun u G'=>u=.bool b)
def mQ (o:Option Nat):Int:=match o with|some i=>i|none=>-1
theorem aat (G:GH) (w0:World) (hG:Hold G w0) (l:List aW) (p:aW→Bool) (v fv:aj) (hv:av G (.sl 6 (l.map aW.dat)) v) (hf:∀ x∈l,pO fv G x.dat (p x)) :
  Calls prog 171 #[v,fv] w0 (aZ w0 G fun u G'=>u=vi (mQ (l.findIdx? p))):=by
 obtain ⟨A,c,rfl,hc1,hc2,hg⟩:=hv.slice;have hml:maxLen=9223372036854775807:=rfl;rw [bG] at *;refine eN [(0,_),(1,_)] func171 rfl ntmps171 rfl rfl hG ?_;intro a H;refine kP H (SR fun _ K1=>ak K1 rfl (SQ fun _ K2=>SR fun _ K3=>Rm rfl (Rl mX rfl (Rm rfl (Kz K3 (SB ?_))))));clear H K1 K3;intro a H;skip;refine eU (ι:=Nat × GH) (Tc:=[(0,_),(1,_),(7,_)]) (Lc:=[]) (fun gh=>[(8,vi gh.1)]) (fun gh=>[]) (fun gh=>gh.2) (fun gh=>gh.1≤l.length∧(l.take gh.1).findIdx? p=none∧(∀ b o,G b=some o→gh.2 b=some o)) (fun gh=>l.length - gh.1) ((0,G)) (by exact (H).sub ⟨rfl,rfl,rfl,rfl,aC⟩) ?_ ?_
 ·exact ⟨by omega,rfl,fun _ _ h=>h⟩
 clear H;rintro ⟨k,g⟩ a w hI H;dsimp only at hI H;obtain ⟨hk,hno,hgm⟩:=hI;dsimp only [lca,bJ] at H;refine kP H (SR fun _ K4=>Rc rfl (Kz K4 (SQ fun _ K5=>Cd rfl ?_ ?_))) <;> clear H K4
 ·intro h9 a H
  try have p9:=dT h9
  have hk2:k < l.length:=by omega
  obtain ⟨b,o,cs,rfl,hcl,hrow,hrep⟩:=hg k l[k].dat (by simp [hk2]);obtain ⟨pA,pn,pc,dA,dn,dc,yA,yn,yc,fA,fn,fc,rfl,-⟩:=hrep.row;replace hrow:=fun j u hj=>aJ hgm (hrow j u hj);refine kP H (Kc K5 (SQ fun _ K6=>SB (SR fun _ K7=>Rm rfl (ak K7 rfl (SR fun _ K8=>Rm rfl (Rm rfl (Rm rfl (Ri mX jP rfl rfl ?_))))))));clear H K5 K7;intro a H;refine bL jP (cs:=[_,_,_,_,_,_]) H wn rfl rfl (fun j v hj=>H.hp.aI (hrow j v hj)) rfl ?_;clear H;intro a H;refine ko H wn rfl rfl (hf _ (kS hk2) _ _ _ hgm H.ro (hrep.mono hgm)) rfl ?_;clear H;rintro v16 pF a w rfl mM H;refine K8 _ _ ?_;clear K8;refine jD H rfl ?_ ?_
  ·intro h16
   try have p16:=dT h16
   refine kP H (SR fun _ K9=>Rm rfl (ak K9 rfl ?_));clear H K9;intro a H;refine lr H results171 rfl ?_
   first
    | exact H.rt (by rw [pY hk2 hno h16];rfl)
    | exact H.rt (by rw [show l.take k=l from iC (by omega)] at hno;rw [hno];rfl)
  intro h16
  try have p16:=dF h16
  refine kP H (Kc K6 (SC (Rd rfl (Rm rfl ?_))));clear H K6;intro a H;refine aD ?_;refine dD ((k+1,pF)) (by exact (H).sub ⟨rfl,rfl,rfl,rfl,aC⟩) ?_
  (try dsimp only);exact ⟨by omega,Ac hk2 hno h16,fun b o h=>mM b o (hgm b o h)⟩
 intro h9 a H
 try have p9:=dF h9
 refine dV ?_;refine K2 _ _ ?_;clear K2;refine kP H (SR fun _ aR=>ak aR rfl ?_);clear H aR;intro a H;refine lr H results171 rfl ?_
 first
  | exact H.rt (by rw [pY hk2 hno h16];rfl)
  | exact H.rt (by rw [show l.take k=l from iC (by omega)] at hno;rw [hno];rfl)
theorem afD (G:GH) (w0:World) (hG:Hold G w0) (l:List aW) (p:aW→Bool) (v fv:aj) (hv:av G (.sl 6 (l.map aW.dat)) v) (hf:∀ x∈l,pO fv G x.dat (p x)) :
  Calls prog 200 #[v,fv] w0 (aZ w0 G fun u G'=>u=.bool (l.findIdx? p).isSome):=by
 refine eN [(0,_),(1,_)] func200 rfl ntmps200 rfl rfl hG ?_;intro a H;refine kP H (SR fun _ K1=>ak K1 rfl (SR fun _ K2=>Rm rfl (Rm rfl ?_)));clear H K1;intro a H;refine s_call X7 H wn rfl (aat _ _ H.ro l p _ _ hv hf) rfl ?_;clear H;rintro v7 G7 a w rfl CX H;refine kH H (Rc rfl (ak K2 rfl ?_));clear H K2;intro a H;refine lr H results200 rfl ?_
 exact H.rt (by cases h:l.findIdx? p <;> simp [mQ])
theorem amB (G:GH) (w0:World) (hG:Hold G w0) (l:List aX) (p:aX→Bool) (v fv:aj) (hv:av G (.sl 7 (l.map aX.dat)) v) (hf:∀ x∈l,pO fv G x.dat (p x)) :
  Calls prog 204 #[v,fv] w0 (aZ w0 G fun u G'=>u=vi (mQ (l.findIdx? p))):=by
 obtain ⟨A,c,rfl,hc1,hc2,hg⟩:=hv.slice;have hml:maxLen=9223372036854775807:=rfl;rw [bG] at *;refine eN [(0,_),(1,_)] func204 rfl ntmps204 rfl rfl hG ?_;intro a H;refine kP H (SR fun _ K1=>ak K1 rfl (SQ fun _ K2=>SR fun _ K3=>Rm rfl (Rl om rfl (Rm rfl (Kz K3 (SB ?_))))));clear H K1 K3;intro a H;skip;refine eU (ι:=Nat × GH) (Tc:=[(0,_),(1,_),(7,_)]) (Lc:=[]) (fun gh=>[(8,vi gh.1)]) (fun gh=>[]) (fun gh=>gh.2) (fun gh=>gh.1≤l.length∧(l.take gh.1).findIdx? p=none∧(∀ b o,G b=some o→gh.2 b=some o)) (fun gh=>l.length - gh.1) ((0,G)) (by exact (H).sub ⟨rfl,rfl,rfl,rfl,aC⟩) ?_ ?_
 ·exact ⟨by omega,rfl,fun _ _ h=>h⟩
 clear H;rintro ⟨k,g⟩ a w hI H;dsimp only at hI H;obtain ⟨hk,hno,hgm⟩:=hI;dsimp only [lca,bJ] at H;refine kP H (SR fun _ K4=>Rc rfl (Kz K4 (SQ fun _ K5=>Cd rfl ?_ ?_))) <;> clear H K4
 ·intro h9 a H
  try have p9:=dT h9
  have hk2:k < l.length:=by omega
  obtain ⟨b,o,cs,rfl,hcl,hrow,hrep⟩:=hg k l[k].dat (by simp [hk2]);obtain ⟨pA,pn,pc,dA,dn,dc,yA,yn,yc,fA,fn,fc,rfl,-⟩:=hrep.cell;replace hrow:=fun j u hj=>aJ hgm (hrow j u hj);refine kP H (Kc K5 (SQ fun _ K6=>SB (SR fun _ K7=>Rm rfl (ak K7 rfl (SR fun _ K8=>Rm rfl (Rm rfl (Rm rfl (Ri om kI rfl rfl ?_))))))));clear H K5 K7;intro a H;refine bL kI (cs:=[_,_,_,_,_,_,_]) H wn rfl rfl (fun j v hj=>H.hp.aI (hrow j v hj)) rfl ?_;clear H;intro a H;refine ko H wn rfl rfl (hf _ (kS hk2) _ _ _ hgm H.ro (hrep.mono hgm)) rfl ?_;clear H;rintro v16 pF a w rfl mM H;refine K8 _ _ ?_;clear K8;refine jD H rfl ?_ ?_
  ·intro h16
   try have p16:=dT h16
   refine kP H (SR fun _ K9=>Rm rfl (ak K9 rfl ?_));clear H K9;intro a H;refine lr H results204 rfl ?_
   first
    | exact H.rt (by rw [pY hk2 hno h16];rfl)
    | exact H.rt (by rw [show l.take k=l from iC (by omega)] at hno;rw [hno];rfl)
  intro h16
  try have p16:=dF h16
  refine kP H (Kc K6 (SC (Rd rfl (Rm rfl ?_))));clear H K6;intro a H;refine aD ?_;refine dD ((k+1,pF)) (by exact (H).sub ⟨rfl,rfl,rfl,rfl,aC⟩) ?_
  (try dsimp only);exact ⟨by omega,Ac hk2 hno h16,fun b o h=>mM b o (hgm b o h)⟩
 intro h9 a H
 try have p9:=dF h9
 refine dV ?_;refine K2 _ _ ?_;clear K2;refine kP H (SR fun _ aR=>ak aR rfl ?_);clear H aR;intro a H;refine lr H results204 rfl ?_
 first
  | exact H.rt (by rw [pY hk2 hno h16];rfl)
  | exact H.rt (by rw [show l.take k=l from iC (by omega)] at hno;rw [hno];rfl)
theorem afC (G:GH) (w0:World) (hG:Hold G w0) (l:List aX) (p:aX→Bool) (v fv:aj) (hv:av G (.sl 7 (l.map aX.dat)) v) (hf:∀ x∈l,pO fv G x.dat (p x)) :
  Calls prog 144 #[v,fv] w0 (aZ w0 G fun u G'=>u=.bool (l.findIdx? p).isSome):=by
 refine eN [(0,_),(1,_)] func144 rfl ntmps144 rfl rfl hG ?_;intro a H;refine kP H (SR fun _ K1=>ak K1 rfl (SR fun _ K2=>Rm rfl (Rm rfl ?_)));clear H K1;intro a H;refine s_call aht H wn rfl (amB _ _ H.ro l p _ _ hv hf) rfl ?_;clear H;rintro v7 G7 a w rfl CX H;refine kH H (Rc rfl (ak K2 rfl ?_));clear H K2;intro a H;refine lr H results144 rfl ?_
 exact H.rt (by cases h:l.findIdx? p <;> simp [mQ])
def lT (p:Nat→Bool):Nat→Nat→Nat→Nat
 | 0,i,_=>i
 | f+1,i,j=>if i < j then (if p ((i+j) / 2) then lT p f i ((i+j) / 2) else lT p f ((i+j) / 2+1) j) else i
theorem TL {p:Nat→Bool} {f i j:Nat} (hf:j - i≤f) (h:i < j):lT p f i j=if p ((i+j) / 2) then lT p (f - 1) i ((i+j) / 2) else lT p (f - 1) ((i+j) / 2+1) j:=by
 match f,hf with
 | 0,hf=>omega
 | f+1,_=>rw [lT,au h];rfl
theorem TI {p:Nat→Bool} {f i j:Nat} (h:¬ i < j):lT p f i j=i:=by
 match f with
 | 0=>rfl
 | f+1=>rw [lT,ah h]
theorem NY {p:Nat→Bool}:∀ (f i j:Nat),i≤j→lT p f i j≤j
 | 0,i,j,h=>h
 | f+1,i,j,h=>by
  rw [lT]
  split
  ·split
   ·exact Nat.le_trans (NY f i _ (by omega)) (by omega)
   ·exact NY f _ j (by omega)
  ·exact h
theorem TM {z:Int} (h1:0≤z) (h2:z < 18446744073709551616):IntKind.u64.wrap z=z:=by
 simp only [IntKind.wrap,IntKind.bits,IntKind.signed,uG,Fq,if_false]
 omega
theorem TJ (n:Nat):((n:Nat):Int).fdiv (2 ^ 1)=((n / 2:Nat):Int):=by
 rw [Int.fdiv_eq_ediv_of_nonneg _ (by decide)];omega
def Bc (a b:Int):Int:=if a < b then -1 else if b < a then 1 else 0
theorem MP {a b:Int}:Bc a b < 0↔a < b:=by
 unfold Bc
 split
 ·simp [*]
 ·split <;> simp_all
theorem MO {a b:Int}:Bc a b=0↔a=b:=by
 unfold Bc
 split
 ·omega
 ·split <;> omega
def iH (ks:List Int) (t:Int):Nat:=lT (fun h=>decide (¬ ks.getD h 0 < t)) ks.length 0 ks.length
def pW (ks:List Int) (t:Int):Bool:=decide (ks[iH ks t]?=some t)
theorem Fx (ks:List Int) (t:Int):iH ks t≤ks.length:=NY _ _ _ (gW _)
theorem Kt {ks:List Int} {t:Int} (h:pW ks t=true):iH ks t < ks.length:=by
 have:=nK h
 exact (jB.1 this).1
theorem Kr {ks:List Int} {t:Int} {n:Nat} (e:iH ks t=n) (h:n < ks.length):pW ks t=decide (Bc ks[n] t=0):=by
 unfold pW
 rw [e,eT h]
 simp [MO]
theorem Kv {ks:List Int} {t:Int} {n:Nat} (e:iH ks t=n) (h:¬ n < ks.length):pW ks t=false:=by
 unfold pW
 rw [e,List.getElem?_eq_none (by omega)]
 simp
theorem getD_map {α:Type} {f:α→Int} {l:List α} {n:Nat} (h:n < l.length):(l.map f).getD n 0=f l[n]:=by
 simp [List.getD,h]
theorem LM:prog.underlying 322=some (.slice 296):=by kernel_rfl
theorem uX:Ty prog 296 6 56 [.int .i64 0,.int .i64 0,.int .i64 0,.int .i64 0,.int .i64 0,.string ⟨#[]⟩] true:=⟨by kernel_rfl,by kernel_rfl⟩
theorem ach:pK prog 296 [(0,1),(1,1),(2,1),(3,1),(4,1),(5,1)] [.int .i64 0,.int .i64 0,.int .i64 0,.int .i64 0,.int .i64 0,.string ⟨#[]⟩]:=⟨by kernel_rfl,by kernel_rfl⟩
theorem QK:∀ args w,(callFunc 174 args).run prog w=.ok (.enter 174 args) w:=enters func174 rfl (by kernel_rfl)
structure jX where
 num:Int
 Io:Int
 low:Int
 high:Int
 std:Int
 name:ByteArray
def jX.dat (x:jX):List Dat:=[li x.num,li x.Io,li x.low,li x.high,li x.std,.lf (.string x.name)]
def jX.cells (x:jX):List aj:=[vi x.num,vi x.Io,vi x.low,vi x.high,vi x.std,.string x.name]
def aO.cells (x:aO):List aj:=[vi x.key,vi x.value]
theorem amQ (G:GH) (x:jX):aU G x.dat x.cells:=by
 simp only [jX.dat,jX.cells,aU]
 exact ⟨_,_,rfl,by simp [av,Value.oneCell'],_,_,rfl,by simp [av,Value.oneCell'],_,_,rfl,by simp [av,Value.oneCell'],_,_,rfl,by simp [av,Value.oneCell'],_,_,rfl,by simp [av,Value.oneCell'],_,_,rfl,by simp [av,Value.oneCell'],rfl⟩
theorem amP {G:GH} {x:jX} {cs:List aj} (h:aU G x.dat cs):cs=x.cells:=by
 simp only [jX.dat,aU,av] at h
 obtain ⟨v1,_,rfl,⟨rfl,-⟩,v2,_,rfl,⟨rfl,-⟩,v3,_,rfl,⟨rfl,-⟩,v4,_,rfl,⟨rfl,-⟩,v5,_,rfl,⟨rfl,-⟩,v6,_,rfl,⟨rfl,-⟩,rfl⟩:=h
 rfl
theorem aoy (G:GH) (x:aO):aU G x.dat x.cells:=by
 simp only [aO.dat,aO.cells,aU]
 exact ⟨_,_,rfl,by simp [av,Value.oneCell'],_,_,rfl,by simp [av,Value.oneCell'],rfl⟩
theorem Oy {G:GH} {x:aO} {cs:List aj} (h:aU G x.dat cs):cs=x.cells:=by
 simp only [aO.dat,aU,av] at h
 obtain ⟨v1,_,rfl,⟨rfl,-⟩,v2,_,rfl,⟨rfl,-⟩,rfl⟩:=h
 rfl
theorem aaA (G:GH):∀ (B A:List jX),bT G 6 (A.map jX.dat) (A.map jX.cells).flatten→bT G 6 ((A++B).map jX.dat) ((A++B).map jX.cells).flatten
 | [],A,h=>by rw [jf];exact h
 | x :: B,A,h=>by
  have h2:=h.snoc (amQ G x) rfl;have h3:=aaA G B (A++[x]) (by simpa using h2)
  simpa using h3
theorem amR (G:GH) (A:List jX):bT G 6 (A.map jX.dat) (A.map jX.cells).flatten:=aaA G A [] bT.nil
theorem Ua {G:GH} {l:List jX} {A:Option Addr} {n c k:Nat} (hv:av G (.sl 6 (l.map jX.dat)) (.slice A n c)) (hk:k < l.length):∃ b o,A=some ⟨b,o,none⟩∧(∀ j u,[vi l[k].num,vi l[k].Io,vi l[k].low,vi l[k].high,vi l[k].std,.string l[k].name][j]?=some u→aI G b (o+k*6+j)=some u):=by
 obtain ⟨A',c',he,_,_,hg⟩:=hv.slice
 injection he with e1 e2 e3
 subst e1;obtain ⟨b,o,cs,h1,h2,h3,h4⟩:=hg k l[k].dat (by simp [hk]);obtain rfl:=amP h4;exact ⟨b,o,h1,h3⟩
theorem abr (G:GH):∀ (B A:List aO),bT G 2 (A.map aO.dat) (A.map aO.cells).flatten→bT G 2 ((A++B).map aO.dat) ((A++B).map aO.cells).flatten
 | [],A,h=>by rw [jf];exact h
 | x :: B,A,h=>by
  have h2:=h.snoc (aoy G x) rfl;have h3:=abr G B (A++[x]) (by simpa using h2)
  simpa using h3
theorem Oz (G:GH) (A:List aO):bT G 2 (A.map aO.dat) (A.map aO.cells).flatten:=abr G A [] bT.nil
theorem GL {G:GH} {l:List aO} {A:Option Addr} {n c k:Nat} (hv:av G (.sl 2 (l.map aO.dat)) (.slice A n c)) (hk:k < l.length):∃ b o,A=some ⟨b,o,none⟩∧(∀ j u,[vi l[k].key,vi l[k].value][j]?=some u→aI G b (o+k*2+j)=some u):=by
 obtain ⟨A',c',he,_,_,hg⟩:=hv.slice
 injection he with e1 e2 e3
 subst e1;obtain ⟨b,o,cs,h1,h2,h3,h4⟩:=hg k l[k].dat (by simp [hk]);obtain rfl:=Oy h4;exact ⟨b,o,h1,h3⟩
def Gp:List jX:=[⟨1,1,0,1073741824,0,⟨#[99,104,97,114,97,99,116,101,114,45,115,116,121,108,101]⟩⟩,⟨2,1,0,1,0,⟨#[98,111,108,100]⟩⟩,⟨3,1,0,1,0,⟨#[105,116,97,108,105,99]⟩⟩,⟨4,1,0,3,0,⟨#[117,110,100,101,114,108,105,110,101]⟩⟩,⟨5,1,2,1638,22,⟨#[115,105,122,101]⟩⟩,⟨6,1,0,16777215,0,⟨#[99,111,108,111,114]⟩⟩,⟨7,1,0,63,0,⟨#[102,111,110,116]⟩⟩,⟨8,1,0,255,0,⟨#[108,97,110,103,117,97,103,101]⟩⟩,⟨9,1,-400,400,0,⟨#[114,97,105,115,101]⟩⟩,⟨10,1,0,1,0,⟨#[104,105,100,100,101,110]⟩⟩,⟨20,2,0,1073741824,0,⟨#[112,97,114,97,103,114,97,112,104,45,115,116,121,108,101]⟩⟩,⟨21,2,0,3,0,⟨#[97,108,105,103,110]⟩⟩,⟨22,2,-31680,31680,0,⟨#[108,101,102,116]⟩⟩,⟨23,2,-31680,31680,0,⟨#[114,105,103,104,116]⟩⟩,⟨24,2,-31680,31680,0,⟨#[102,105,114,115,116]⟩⟩,⟨25,2,0,31680,0,⟨#[98,101,102,111,114,101]⟩⟩,⟨26,2,0,31680,0,⟨#[97,102,116,101,114]⟩⟩,⟨27,2,0,31680,0,⟨#[108,101,97,100,105,110,103]⟩⟩,⟨28,2,0,1,0,⟨#[107,101,101,112,45,110,101,120,116]⟩⟩,⟨29,2,0,1,0,⟨#[107,101,101,112,45,108,105,110,101,115]⟩⟩,⟨30,2,0,1,1,⟨#[119,105,100,111,119]⟩⟩,⟨31,2,0,1,0,⟨#[112,97,103,101,45,98,101,102,111,114,101]⟩⟩,⟨32,2,0,9,0,⟨#[111,117,116,108,105,110,101]⟩⟩,⟨33,2,0,1073741824,0,⟨#[108,105,115,116]⟩⟩,⟨34,2,1,9,1,⟨#[108,101,118,101,108]⟩⟩,⟨35,2,0,32767,0,⟨#[114,101,115,116,97,114,116]⟩⟩,⟨36,2,1,31680,720,⟨#[116,97,98,45,115,116,111,112]⟩⟩,⟨37,2,0,1,0,⟨#[104,121,112,104,101,110,97,116,101]⟩⟩,⟨40,3,720,31680,12240,⟨#[112,97,103,101,45,119,105,100,116,104]⟩⟩,⟨41,3,720,31680,15840,⟨#[112,97,103,101,45,104,101,105,103,104,116]⟩⟩,⟨42,3,0,31680,1440,⟨#[116,111,112]⟩⟩,⟨43,3,0,31680,1440,⟨#[98,111,116,116,111,109]⟩⟩,⟨44,3,0,31680,1440,⟨#[105,110,110,101,114]⟩⟩,⟨45,3,0,31680,1440,⟨#[111,117,116,101,114]⟩⟩,⟨46,3,0,32767,0,⟨#[102,105,114,115,116,45,112,97,103,101]⟩⟩,⟨47,3,1,6,1,⟨#[112,97,103,101,45,102,111,114,109,97,116]⟩⟩,⟨50,4,0,1,0,⟨#[104,101,97,100,101,114]⟩⟩,⟨51,4,0,1,0,⟨#[99,97,110,116,45,115,112,108,105,116]⟩⟩,⟨52,4,0,31680,0,⟨#[114,111,119,45,104,101,105,103,104,116]⟩⟩,⟨60,5,1,32,1,⟨#[99,111,108,117,109,110,45,115,112,97,110]⟩⟩,⟨61,5,0,2,0,⟨#[118,101,114,116,105,99,97,108,45,109,101,114,103,101]⟩⟩,⟨62,5,0,31680,0,⟨#[99,101,108,108,45,119,105,100,116,104]⟩⟩,⟨63,5,0,16777215,16777215,⟨#[115,104,97,100,101]⟩⟩,⟨70,6,0,31680,0,⟨#[116,97,98,108,101,45,119,105,100,116,104]⟩⟩,⟨71,6,0,2,0,⟨#[116,97,98,108,101,45,97,108,105,103,110]⟩⟩]
set_option maxRecDepth 20000 in
theorem amU (G:GH) (w0:World) (hG:Hold G w0):Calls prog 250 #[] w0 (aZ w0 G fun u G'=>av G' (.sl 6 (Gp.map jX.dat)) u):=by
 refine eN [] func250 rfl ntmps250 rfl rfl hG ?_;intro a H;refine kP H (SR fun _ K1=>ak K1 rfl (SR fun _ K2=>?_));clear H K1;intro a H;(iterate 45 refine jm ach [_,_,_,_,_,_] H wn rfl rfl rfl rfl ?_;clear H;intro a H);refine apC LM uX (Gp.map jX.cells) H wn rfl rfl rfl rfl rfl rfl rfl ?_;clear H;intro b46 a w asY H;refine kH H (ak K2 rfl ?_);clear H K2;intro a H;refine lr H results250 rfl ?_;obtain ⟨Gz,hmz,hbz,H⟩:=H.eH;exact H.rt (av.fE (n:=45) (cap:=45) hbz rfl (bM _) (show 45≤maxLen by decide) (iC (bM _)) (amR _ _))
theorem TW (G:GH) (w0:World) (hG:Hold G w0) (x:Int):Calls prog 174 #[vi x] w0 (aZ w0 G fun u G'=>u=.bool false∧G=G'):=by
 refine eN [(0,_)] func174 rfl ntmps174 rfl rfl hG ?_;intro a H;exact kP H (SR fun _ K1=>ak K1 rfl (SR fun _ K2=>Rm rfl (Rm rfl (Rc rfl (ak K2 rfl (LR results174 rfl fun H=>H.rt ⟨by simp,rfl⟩))))))
theorem Qx {x y z:Int} (h:(x < y∧z=-1)∨(y < x∧z=1)∨(x=y∧z=0)):z=Bc x y:=by
 unfold Bc;split
 ·omega
 split <;> omega
theorem Xx (G:GH) (w0:World) (hG:Hold G w0) (x y:Int):Calls prog 253 #[vi x,vi y] w0 (aZ w0 G fun u G'=>u=vi (Bc x y)):=by
 refine eN [(0,_),(1,_)] func253 rfl ntmps253 rfl rfl hG ?_;intro a H;refine kP H (SR fun _ K1=>ak K1 rfl (SR fun _ K2=>Rm rfl ?_));clear H K1;intro a H;refine s_call QK H wn rfl (TW _ _ H.ro x) rfl ?_;clear H;rintro v8 G8 a w ⟨rfl,-⟩ vV H;refine kH H (ak K2 rfl (SR fun _ K3=>Rm rfl ?_));clear H K2;intro a H;refine s_call QK H wn rfl (TW _ _ H.ro y) rfl ?_;clear H;rintro v10 Ce a w ⟨rfl,-⟩ En H;refine kH H (ak K3 rfl (SQ fun _ K4=>SR fun _ K5=>Rm rfl (Kz K5 (Cd rfl ?_ ?_)))) <;> clear H K3 K5
 ·intro h11 a H
  cases h11
 intro h11 a H
 try have oD:=dF h11
 refine kP H (Kc K4 (SQ fun _ K6=>SR fun _ K7=>Rm rfl (Kz K7 (Cd rfl ?_ ?_)))) <;> clear H K4 K7
 ·intro gG a H
  cases gG
 intro gG a H
 try have rz:=dF gG
 refine kP H (Kc K6 (SQ fun _ K8=>SR fun _ K9=>Rm rfl (Rm rfl (Rc rfl (Kz K9 (Cd rfl ?_ ?_)))))) <;> clear H K6 K9
 ·intro h16 a H
  try have p16:=dT h16
  exact kP H (SR fun _ aR=>ak aR rfl (LR results253 rfl fun H=>H.rt (aB vi (Qx (by omega)))))
 intro h16 a H
 try have p16:=dF h16
 refine kP H (Kc K8 (SQ fun _ bQ=>SR fun _ bY=>Rm rfl (Rm rfl (Rc rfl (Kz bY (Cd rfl ?_ ?_)))))) <;> clear H K8 bY
 ·intro h19 a H
  try have uf:=dT h19
  exact kP H (SR fun _ cZ=>ak cZ rfl (LR results253 rfl fun H=>H.rt (aB vi (Qx (by omega)))))
 intro h19 a H
 try have uf:=dF h19
 exact kP H (Kc bQ (SR fun _ dG=>ak dG rfl (LR results253 rfl fun H=>H.rt (aB vi (Qx (by omega))))))
def lF (l:List aO):List aj:=(l.map aO.cells).flatten
theorem QC:∀ l:List aO,(lF l).length=l.length*2
 | []=>rfl
 | p :: l=>by
  have:=QC l
  simp only [lF,fK,List.flatten_cons,iI] at this ⊢
  rw [this,show p.cells.length=2 from rfl,kR];omega
theorem JQ (l m:List aO):lF (l++m)=lF l++lF m:=by simp [lF]
theorem aoz {G:GH} {l:List aO} {xs:List aj} (h:bT G 2 (l.map aO.dat) xs):xs=lF l:=by
 obtain ⟨css,rfl,h2,h3⟩:=h;rw [bG] at h2
 have e:css=l.map aO.cells:=by
  apply List.ext_getElem?
  intro j;rw [pQ]
  by_cases hj:j < l.length
  ·have h4:=(h3 j l[j].dat css[j] (by simp [hj]) (eT (by omega))).1;rw [eT hj,eT (by omega),Oy h4];rfl
  rw [List.getElem?_eq_none (by omega),List.getElem?_eq_none (by omega)];rfl
 rw [e];rfl
theorem afo {G:GH} {w0:World} (hO:gD G [] w0) (l:List aO) (v:aj) (hv:av G (.sl 2 (l.map aO.dat)) v) (hz:l.length≤4294967296) :
  Calls prog 168 #[v] w0 (fV w0 G [] fun u G' L'=>bZ 187 2 u l.length (lF l) L'):=by
 obtain ⟨A,c,rfl,_,_,-⟩:=hv.slice;obtain ⟨hn,hc1,hc2,hnil,hx⟩:=hv.cells;rw [bG] at *;refine iX (N:=8) (T:=[(0,_)]) func168 rfl ntmps168 rfl rfl hO ?_;intro a H;refine kP H (SR fun _ K1=>ak K1 rfl (SQ fun _ K2=>SR fun _ K3=>Rm rfl ?_));clear H K1;intro a H;refine BM gy H wn rfl rfl ?_;clear H;intro a H;refine K3 _ _ ?_;clear K3;refine jD H rfl ?_ ?_
 ·intro h4
  refine kP H (SR fun _ K4=>ak K4 rfl ?_);clear H K4;intro a H;refine lr H results168 rfl ?_
  have e:l=[]:=by simpa using hnil (by simpa using h4)
  subst e;exact H.hp.dx bZ.nil
 intro h4
 try have p4:=dF h4
 refine gU ?_;refine K2 _ _ ?_;clear K2;refine bN (fun _ K5=>?_)
 have hA:¬ A=none:=by intro e;rw [e] at h4;cases h4
 refine pR ?_;refine BK gy gM H wn rfl ?_;clear H;intro b5 a w hb5 H;refine kH H (Rm rfl ?_);clear H;intro a H
 by_cases hr0:l=[]
 ·subst hr0;refine BJ gy gM H wn rfl rfl (bM _) rfl ?_;clear H;intro a H;exact kH H (bq K5 rfl (LR results168 rfl fun H=>H.hp.dx bZ.empty))
 obtain ⟨b,o,xs,rfl,hxl,hxc,hx1,dP⟩:=hx (by simpa using hr0);obtain rfl:=aoz dP;refine nE (Li:=[]) (Lo:=[_]) (news:=lF l) gy gM rfl rfl H wn rfl rfl bZ.empty hxl (fun j u hj=>H.hp.aI (hxc j u hj)) hx1 (by omega) (by omega) rfl ?_;clear H;intro v7 Lo a w hrow H;rw [gI,mZ] at hrow;exact kH H (bq K5 rfl (LR results168 rfl fun H=>H.hp.dx hrow))
theorem abo {G:GH} {w0:World} (hO:gD G [] w0) (l:List aO) (v:aj) (hv:av G (.sl 2 (l.map aO.dat)) v) (hz:l.length≤4294967296) :
  Calls prog 159 #[v] w0 (fV w0 G [] fun u G' L'=>bZ 187 2 u l.length (lF l) L'):=by
 obtain ⟨A,c,rfl,_,_,-⟩:=hv.slice;rw [bG] at *;refine iX (N:=5) (T:=[(0,_)]) func159 rfl ntmps159 rfl rfl hO ?_;intro a H;refine kP H (SR fun _ K1=>ak K1 rfl (SR fun _ K2=>Rm rfl ?_));clear H K1;intro a H;refine gH MZ (Li:=[]) (L:=[]) H wn rfl (afo (Hp.owns (Li:=[]) H.hp) l _ hv hz) rfl ?_;clear H;rintro v4 G4 L4 a w hrw Bu H;dsimp only [List.nil_append] at H;obtain ⟨A4,c4,rfl,-,-⟩:=hrw.shape;exact kH H (ak K2 rfl (LR results159 rfl fun H=>H.hp.dx hrw))
theorem aje:dH prog 296 0 0:=⟨by kernel_rfl⟩
theorem Yg:∀ args w,(callFunc 253 args).run prog w=.ok (.enter 253 args) w:=enters func253 rfl (by kernel_rfl)
theorem Jm:prog.underlying 199=some (.int .u64):=by kernel_rfl
theorem wS:dH prog 187 0 0:=⟨by kernel_rfl⟩
theorem ahR:∀ args w,(callFunc 252 args).run prog w=.ok (.enter 252 args) w:=enters func252 rfl (by kernel_rfl)
theorem ahU:∀ args w,(callFunc 261 args).run prog w=.ok (.enter 261 args) w:=enters func261 rfl (by kernel_rfl)
theorem Xk (G:GH) (w0:World) (hG:Hold G w0) (x:jX) (t:Int):sj prog (.func (.func 252) #[] #[]) [.agg x.cells.toArray,vi t] w0 (aZ w0 G fun u G'=>u=vi (Bc x.num t)):=by
 refine jI (caps:=[]) ahR ?_;refine eN [(0,_),(1,_)] func252 rfl ntmps252 rfl rfl hG ?_;intro a H;refine cu (fun _ K1=>?_);refine dQ (cs:=[_,_,_,_,_,_]) H wn rfl rfl rfl ?_;clear H;intro b2 a w hb2 H;refine kH H (ak K1 rfl (SR fun _ K2=>aY aje aH 0 rfl rfl (Rm rfl ?_)));clear H K1;intro a H;refine s_call Yg H wn rfl (Xx _ _ H.ro x.num t) rfl ?_;clear H;rintro v8 G8 a w rfl vV H;exact kH H (ak K2 rfl (LR results252 rfl fun H=>H.rt rfl))
theorem aeg (G:GH) (w0:World) (hG:Hold G w0) (l:List jX) (t:Int) (v:aj) (hv:av G (.sl 6 (l.map jX.dat)) v) (hl:l.length≤4294967296) :
  Calls prog 251 #[v,vi t,.func (.func 252) #[] #[]] w0 (aZ w0 G fun u G'=>u=.tuple #[vi (iH (l.map jX.num) t),.bool (pW (l.map jX.num) t)]):=by
 obtain ⟨A,c,rfl,hc1,hc2,-⟩:=hv.slice;rw [bG] at *;obtain ⟨p,hp⟩:∃ p:Nat→Bool,p=fun h=>decide (¬ (l.map jX.num).getD h 0 < t):=⟨_,rfl⟩
 have hbs:iH (l.map jX.num) t=lT p l.length 0 l.length:=by rw [hp,iH,bG]
 refine eN [(0,_),(1,_),(2,_)] func251 rfl ntmps251 rfl rfl hG ?_;intro a H;refine kP H (SR fun _ K1=>Ra rfl (ak K1 rfl (SR fun _ K2=>Rm rfl (Rl LM rfl (ak K2 rfl (SR fun _ K3=>Rm rfl (Ra rfl (ak K3 rfl (SQ fun _ K4=>SB ?_)))))))));clear H K1 K2 K3;intro a H;skip;refine eU (ι:=Nat × Nat × Nat × GH) (Tc:=[(0,_),(1,_),(2,_),(8,_)]) (Lc:=[]) (fun gh=>[(9,vi gh.1),(10,vi gh.2.1)]) (fun gh=>[]) (fun gh=>gh.2.2.2) (fun gh=>gh.1≤gh.2.1∧gh.2.1≤l.length∧gh.2.1 - gh.1≤gh.2.2.1∧lT p gh.2.2.1 gh.1 gh.2.1=iH (l.map jX.num) t∧(∀ b o,G b=some o→gh.2.2.2 b=some o)) (fun gh=>gh.2.1 - gh.1) ((0,l.length,l.length,G)) (by exact (H).sub ⟨rfl,rfl,rfl,rfl,rfl,rfl,aC⟩) ?_ ?_
 ·exact ⟨gW _,bM _,Nat.sub_le _ _,hbs.symm,fun _ _ h=>h⟩
 clear H;rintro ⟨i,j,f,g⟩ a w hI H;dsimp only at hI H;obtain ⟨hij,hj,hf1,heq,hgm⟩:=hI;have BA:=hv.mono hgm;dsimp only [lca,bJ] at H;refine kP H (SQ fun _ K5=>SR fun _ K6=>Rm rfl (Rm rfl (Rc rfl (Kz K6 (Cd rfl ?_ ?_))))) <;> clear H K6
 ·intro eX a H
  try have nA:=dT eX
  have hlt:i < j:=by omega
  rw [TL hf1 hlt] at heq;obtain ⟨m,hm⟩:∃ m,m=(i+j) / 2:=⟨_,rfl⟩;rw [← hm] at heq
  have hml:m < l.length:=by omega
  obtain ⟨b,o,rfl,hrow⟩:=Ua BA hml
  have hpm:p m=decide (¬ l[m].num < t):=by rw [hp];dsimp only;rw [getD_map hml]
  rw [hpm] at heq;refine kP H (Kc K5 (SB (SR fun _ K7=>Rm rfl (Rm rfl (Rd rfl ?_)))));clear H K5;intro a H;rw [show ((i:Int)+(j:Int))=((i+j:Nat):Int) by push_cast;rfl] at H;refine BL ((i+j:Nat):Int) Jm lu H wn rfl (TM (by omega) (by omega)) rfl ?_;clear H;intro a H;refine OT _ H wn rfl rfl rfl (by decide) rfl ?_;clear H;intro a H;rw [TJ,← hm] at H;refine BL (m:Int) lu Jm H wn rfl (Gg (by omega) (by omega)) rfl ?_;clear H;intro a H;refine kH H (ak K7 rfl (SR fun _ K8=>Rm rfl (Rm rfl (Rm rfl (Ri LM uX rfl rfl ?_)))));clear H K7;intro a H;refine bL uX (cs:=[_,_,_,_,_,_]) H wn rfl rfl (fun j v hj=>H.hp.aI (hrow j v hj)) rfl ?_;clear H;intro a H;refine kH H (Rm rfl ?_);clear H;intro a H;refine ko H wn rfl rfl (Xk _ _ H.ro l[m] t) rfl ?_;clear H;rintro v30 Ay a w rfl Bt H;refine kH H (Rc rfl (Kz K8 (Cd rfl ?_ ?_))) <;> clear H K8
  ·intro h31 a H
   try have p31:=dT h31
   rw [ah (by simpa using MP.1 p31)] at heq;refine kP H (SC (Rm rfl (Rd rfl (Ra rfl ?_))));clear H;intro a H;refine aD ?_;refine dD ((m+1,j,f - 1,Ay)) (by exact (H).sub ⟨rfl,rfl,rfl,rfl,rfl,rfl,aC⟩) ?_
   (try dsimp only);exact ⟨by omega,hj,by omega,heq,fun b o h=>Bt b o (hgm b o h)⟩
  intro h31 a H
  try have p31:=dF h31
  rw [au (by simpa using fun h=>p31 (MP.2 h))] at heq;refine kP H (SC (Rm rfl (Ra rfl ?_)));clear H;intro a H;refine aD ?_;refine dD ((i,m,f - 1,Ay)) (by exact (H).sub ⟨rfl,rfl,rfl,rfl,rfl,rfl,aC⟩) ?_
  (try dsimp only);exact ⟨by omega,by omega,by omega,heq,fun b o h=>Bt b o (hgm b o h)⟩
 intro eX a H
 try have nA:=dF eX
 refine dV ?_;refine K4 _ _ ?_;clear K4;refine bN (fun _ K9=>?_);rw [TI (by omega)] at heq;refine kP H (SC (Rm rfl (Rm rfl (Rm rfl (Rc rfl (Rm rfl (Sp 39 rfl ?_ ?_))))))) <;> clear H
 ·intro jv a H
  try have p39:=dT jv
  have hil:i < l.length:=by omega
  obtain ⟨b,o,rfl,hrow⟩:=Ua BA hil;refine kH H (YM jv rfl (YM jv rfl (YM jv rfl (YI LM uX jv rfl rfl ?_))));clear H;intro a H;refine bL uX (cs:=[_,_,_,_,_,_]) H (wg H rfl rfl jv) rfl rfl (fun j v hj=>H.hp.aI (hrow j v hj)) rfl ?_;clear H;intro a H;refine kH H (YM jv rfl ?_);clear H;intro a H;refine ko H (wg H rfl rfl jv) rfl rfl (Xk _ _ H.ro l[i] t) rfl ?_;clear H;rintro v46 VX a w rfl ZG H;refine kH H (YC jv rfl (Pt jv rfl (Ra rfl (bq K9 rfl ?_))));clear H K9;intro a H;refine bW ?_;refine (eY H results251 (.cons (aT H rfl) (.cons (aT H rfl) .nil)) ?_).1;exact H.rt (by rw [Kr heq.symm (by rw [bG];omega),← heq];simp)
 intro jv a H
 try have p39:=dF jv
 refine kH H (bF jv rfl (bF jv rfl (aQ jv rfl (Pf jv rfl (Ra rfl (bq K9 rfl ?_))))));clear H K9;intro a H;refine bW ?_;refine (eY H results251 (.cons (aT H rfl) (.cons (aT H rfl) .nil)) ?_).1;exact H.rt (by rw [Kv heq.symm (by rw [bG];omega),← heq])
theorem Xl (G:GH) (w0:World) (hG:Hold G w0) (x:aO) (t:Int):sj prog (.func (.func 261) #[] #[]) [.agg x.cells.toArray,vi t] w0 (aZ w0 G fun u G'=>u=vi (Bc x.key t)):=by
 refine jI (caps:=[]) ahU ?_;refine eN [(0,_),(1,_)] func261 rfl ntmps261 rfl rfl hG ?_;intro a H;refine cu (fun _ K1=>?_);refine dQ (cs:=[_,_]) H wn rfl rfl rfl ?_;clear H;intro b2 a w hb2 H;refine kH H (ak K1 rfl (SR fun _ K2=>aY wS aH 0 rfl rfl (Rm rfl ?_)));clear H K1;intro a H;refine s_call Yg H wn rfl (Xx _ _ H.ro x.key t) rfl ?_;clear H;rintro v8 G8 a w rfl vV H;exact kH H (ak K2 rfl (LR results261 rfl fun H=>H.rt rfl))
theorem aeh (G:GH) (w0:World) (hG:Hold G w0) (l:List aO) (t:Int) (v:aj) (hv:av G (.sl 2 (l.map aO.dat)) v) (hl:l.length≤4294967296) :
  Calls prog 260 #[v,vi t,.func (.func 261) #[] #[]] w0 (aZ w0 G fun u G'=>u=.tuple #[vi (iH (l.map aO.key) t),.bool (pW (l.map aO.key) t)]):=by
 obtain ⟨A,c,rfl,hc1,hc2,-⟩:=hv.slice;rw [bG] at *;obtain ⟨p,hp⟩:∃ p:Nat→Bool,p=fun h=>decide (¬ (l.map aO.key).getD h 0 < t):=⟨_,rfl⟩
 have hbs:iH (l.map aO.key) t=lT p l.length 0 l.length:=by rw [hp,iH,bG]
 refine eN [(0,_),(1,_),(2,_)] func260 rfl ntmps260 rfl rfl hG ?_;intro a H;refine kP H (SR fun _ K1=>Ra rfl (ak K1 rfl (SR fun _ K2=>Rm rfl (Rl gy rfl (ak K2 rfl (SR fun _ K3=>Rm rfl (Ra rfl (ak K3 rfl (SQ fun _ K4=>SB ?_)))))))));clear H K1 K2 K3;intro a H;skip;refine eU (ι:=Nat × Nat × Nat × GH) (Tc:=[(0,_),(1,_),(2,_),(8,_)]) (Lc:=[]) (fun gh=>[(9,vi gh.1),(10,vi gh.2.1)]) (fun gh=>[]) (fun gh=>gh.2.2.2) (fun gh=>gh.1≤gh.2.1∧gh.2.1≤l.length∧gh.2.1 - gh.1≤gh.2.2.1∧lT p gh.2.2.1 gh.1 gh.2.1=iH (l.map aO.key) t∧(∀ b o,G b=some o→gh.2.2.2 b=some o)) (fun gh=>gh.2.1 - gh.1) ((0,l.length,l.length,G)) (by exact (H).sub ⟨rfl,rfl,rfl,rfl,rfl,rfl,aC⟩) ?_ ?_
 ·exact ⟨gW _,bM _,Nat.sub_le _ _,hbs.symm,fun _ _ h=>h⟩
 clear H;rintro ⟨i,j,f,g⟩ a w hI H;dsimp only at hI H;obtain ⟨hij,hj,hf1,heq,hgm⟩:=hI;have BA:=hv.mono hgm;dsimp only [lca,bJ] at H;refine kP H (SQ fun _ K5=>SR fun _ K6=>Rm rfl (Rm rfl (Rc rfl (Kz K6 (Cd rfl ?_ ?_))))) <;> clear H K6
 ·intro eX a H
  try have nA:=dT eX
  have hlt:i < j:=by omega
  rw [TL hf1 hlt] at heq;obtain ⟨m,hm⟩:∃ m,m=(i+j) / 2:=⟨_,rfl⟩;rw [← hm] at heq
  have hml:m < l.length:=by omega
  obtain ⟨b,o,rfl,hrow⟩:=GL BA hml
  have hpm:p m=decide (¬ l[m].key < t):=by rw [hp];dsimp only;rw [getD_map hml]
  rw [hpm] at heq;refine kP H (Kc K5 (SB (SR fun _ K7=>Rm rfl (Rm rfl (Rd rfl ?_)))));clear H K5;intro a H;rw [show ((i:Int)+(j:Int))=((i+j:Nat):Int) by push_cast;rfl] at H;refine BL ((i+j:Nat):Int) Jm lu H wn rfl (TM (by omega) (by omega)) rfl ?_;clear H;intro a H;refine OT _ H wn rfl rfl rfl (by decide) rfl ?_;clear H;intro a H;rw [TJ,← hm] at H;refine BL (m:Int) lu Jm H wn rfl (Gg (by omega) (by omega)) rfl ?_;clear H;intro a H;refine kH H (ak K7 rfl (SR fun _ K8=>Rm rfl (Rm rfl (Rm rfl (Ri gy gM rfl rfl ?_)))));clear H K7;intro a H;refine bL gM (cs:=[_,_]) H wn rfl rfl (fun j v hj=>H.hp.aI (hrow j v hj)) rfl ?_;clear H;intro a H;refine kH H (Rm rfl ?_);clear H;intro a H;refine ko H wn rfl rfl (Xl _ _ H.ro l[m] t) rfl ?_;clear H;rintro v30 Ay a w rfl Bt H;refine kH H (Rc rfl (Kz K8 (Cd rfl ?_ ?_))) <;> clear H K8
  ·intro h31 a H
   try have p31:=dT h31
   rw [ah (by simpa using MP.1 p31)] at heq;refine kP H (SC (Rm rfl (Rd rfl (Ra rfl ?_))));clear H;intro a H;refine aD ?_;refine dD ((m+1,j,f - 1,Ay)) (by exact (H).sub ⟨rfl,rfl,rfl,rfl,rfl,rfl,aC⟩) ?_
   (try dsimp only);exact ⟨by omega,hj,by omega,heq,fun b o h=>Bt b o (hgm b o h)⟩
  intro h31 a H
  try have p31:=dF h31
  rw [au (by simpa using fun h=>p31 (MP.2 h))] at heq;refine kP H (SC (Rm rfl (Ra rfl ?_)));clear H;intro a H;refine aD ?_;refine dD ((i,m,f - 1,Ay)) (by exact (H).sub ⟨rfl,rfl,rfl,rfl,rfl,rfl,aC⟩) ?_
  (try dsimp only);exact ⟨by omega,by omega,by omega,heq,fun b o h=>Bt b o (hgm b o h)⟩
 intro eX a H
 try have nA:=dF eX
 refine dV ?_;refine K4 _ _ ?_;clear K4;refine bN (fun _ K9=>?_);rw [TI (by omega)] at heq;refine kP H (SC (Rm rfl (Rm rfl (Rm rfl (Rc rfl (Rm rfl (Sp 39 rfl ?_ ?_))))))) <;> clear H
 ·intro jv a H
  try have p39:=dT jv
  have hil:i < l.length:=by omega
  obtain ⟨b,o,rfl,hrow⟩:=GL BA hil;refine kH H (YM jv rfl (YM jv rfl (YM jv rfl (YI gy gM jv rfl rfl ?_))));clear H;intro a H;refine bL gM (cs:=[_,_]) H (wg H rfl rfl jv) rfl rfl (fun j v hj=>H.hp.aI (hrow j v hj)) rfl ?_;clear H;intro a H;refine kH H (YM jv rfl ?_);clear H;intro a H;refine ko H (wg H rfl rfl jv) rfl rfl (Xl _ _ H.ro l[i] t) rfl ?_;clear H;rintro v46 VX a w rfl ZG H;refine kH H (YC jv rfl (Pt jv rfl (Ra rfl (bq K9 rfl ?_))));clear H K9;intro a H;refine bW ?_;refine (eY H results260 (.cons (aT H rfl) (.cons (aT H rfl) .nil)) ?_).1;exact H.rt (by rw [Kr heq.symm (by rw [bG];omega),← heq];simp)
 intro jv a H
 try have p39:=dF jv
 refine kH H (bF jv rfl (bF jv rfl (aQ jv rfl (Pf jv rfl (Ra rfl (bq K9 rfl ?_))))));clear H K9;intro a H;refine bW ?_;refine (eY H results260 (.cons (aT H rfl) (.cons (aT H rfl) .nil)) ?_).1;exact H.rt (by rw [Kv heq.symm (by rw [bG];omega),← heq])
theorem ahP:∀ args w,(callFunc 250 args).run prog w=.ok (.enter 250 args) w:=enters func250 rfl (by kernel_rfl)
theorem ahQ:∀ args w,(callFunc 251 args).run prog w=.ok (.enter 251 args) w:=enters func251 rfl (by kernel_rfl)
theorem uo:prog.underlying 41=some (.slice 3):=by kernel_rfl
theorem ahS:∀ args w,(callFunc 254 args).run prog w=.ok (.enter 254 args) w:=enters func254 rfl (by kernel_rfl)
theorem Ye:∀ args w,(callFunc 226 args).run prog w=.ok (.enter 226 args) w:=enters func226 rfl (by kernel_rfl)
theorem ahG:∀ args w,(callFunc 228 args).run prog w=.ok (.enter 228 args) w:=enters func228 rfl (by kernel_rfl)
theorem ajf:dH prog 296 1 1:=⟨by kernel_rfl⟩
theorem ahF:∀ args w,(callFunc 227 args).run prog w=.ok (.enter 227 args) w:=enters func227 rfl (by kernel_rfl)
theorem ajg:dH prog 296 2 2:=⟨by kernel_rfl⟩
theorem ajh:dH prog 296 3 3:=⟨by kernel_rfl⟩
def kz:jX:=⟨0,0,0,0,0,⟨#[]⟩⟩
def Gn:List Int:=Gp.map jX.num
def uM (k:Int):jX × Bool:=if pW Gn k=true then (Gp.getD (iH Gn k) kz,true) else (kz,false)
theorem find_spec (G:GH) (w0:World) (hG:Hold G w0) (k:Int):Calls prog 226 #[vi k] w0 (aZ w0 G fun u G'=>u=.tuple #[.agg (uM k).1.cells.toArray,.bool (uM k).2]):=by
 refine eN [(0,_)] func226 rfl ntmps226 rfl rfl hG ?_;intro a H;refine cu (fun _ K1=>?_);refine dS uX H wn rfl ?_;clear H;intro b2 a w hb2 H;refine kH H (ak K1 rfl (SR fun _ K2=>?_));clear H K1;intro a H;refine s_call ahP H wn rfl (amU _ _ H.ro) rfl ?_;clear H;rintro v7 G7 a w hv7 CX H;obtain ⟨A,c,rfl,hc1,hc2,-⟩:=hv7.slice;rw [bG] at *;refine kH H (ak K2 rfl (SR fun _ K3=>Rm rfl (Rm rfl ?_)));clear H K2;intro a H;refine s_call ahQ H wn rfl (aeg _ _ H.ro Gp k _ hv7 (by decide)) rfl ?_;clear H;rintro v11 sw a w rfl Br H;have hv7:=hv7.mono Br;have hkn:Gp.map jX.num=Gn:=rfl;rw [hkn] at H;obtain ⟨n,hn⟩:∃ n,n=iH Gn k:=⟨_,rfl⟩;obtain ⟨q,hq⟩:∃ q,q=pW Gn k:=⟨_,rfl⟩;rw [← hn,← hq] at H;refine kH H (Rm rfl ?_);clear H;intro a H;(iterate 2 refine lq H wn rfl rfl rfl ?_;clear H;intro a H);refine kH H (Ra rfl (ak K3 rfl (SQ fun _ K4=>SR fun _ K5=>Rm rfl (Rn rfl (Kz K5 (Cd rfl ?_ ?_)))))) <;> clear H K3 K5
 ·intro iY a H
  refine cu (fun _ K6=>?_);refine jm ach [_,_,_,_,_,_] H wn rfl rfl rfl rfl ?_;clear H;intro a H;refine bD uX 0 (vs:=[_,_,_,_,_,_]) _ H wn rfl rfl rfl rfl rfl rfl rfl rfl ?_;clear H;intro w H;dsimp only [List.set,setRow] at H;refine kH H (ak K6 rfl ?_);clear H K6;intro a H;refine bW ?_;refine (eY H results226 (.cons (nQ uX (cs:=[_,_,_,_,_,_]) H rfl rfl (H.hp.cO 0 rfl rfl)) (.cons (aT H rfl) .nil)) ?_).1;exact H.rt (by rw [uM,ah (by rw [← hq];simpa using iY)];rfl)
 intro iY a H
 try have qd:=dF iY
 have hlt:n < Gp.length:=by have:=Kt (ks:=Gn) (t:=k) (by rw [← hq];simpa using iY);rw [← hn] at this;simpa [Gn] using this
 obtain ⟨b,o,rfl,hrow⟩:=Ua hv7 hlt;refine kP H (Kc K4 (SR fun _ K7=>Rm rfl (Rm rfl (Ri LM uX rfl rfl ?_))));clear H K4;intro a H;refine bL uX (cs:=[_,_,_,_,_,_]) H wn rfl rfl (fun j v hj=>H.hp.aI (hrow j v hj)) rfl ?_;clear H;intro a H;refine bD uX 0 (vs:=[_,_,_,_,_,_]) _ H wn rfl rfl rfl rfl rfl rfl rfl rfl ?_;clear H;intro w H;dsimp only [List.set,setRow] at H;refine kH H (ak K7 rfl ?_);clear H K7;intro a H;refine bW ?_;refine (eY H results226 (.cons (nQ uX (cs:=[_,_,_,_,_,_]) H rfl rfl (H.hp.cO 0 rfl rfl)) (.cons (aT H rfl) .nil)) ?_).1;exact H.rt (by rw [uM,au (by rw [← hq];simpa using iY),← hn,List.getD_eq_getElem?_getD,eT hlt];rfl)
def eO (e:Int):List Int:=if e=1∨e=4∨e=5∨e=6 then [1] else if e=2 then [1,2] else if e=3 then [3] else if e=7 then [6] else if e=9 then [4] else if e=10 then [5] else []
theorem fT (G:GH) (A:List Int):bT G 1 (A.map fun k=>[li k]) (A.map vi):=by
 refine ⟨A.map fun k=>[vi k],?_,by simp,fun j r cs hr hc=>?_⟩
 ·induction A with
  | nil=>rfl
  | cons a A ih=>simpa using ih
 rw [pQ] at hr hc
 cases h:A[j]? with
 | none=>rw [h] at hr;cases hr
 | some x =>
  rw [h] at hr hc
  cases hr;cases hc
  exact ⟨by simp only [aU];exact ⟨_,_,rfl,by simp [av,Value.oneCell'],rfl⟩,rfl⟩
theorem ajM (G:GH) (w0:World) (hG:Hold G w0) (e:Int):Calls prog 228 #[vi e] w0 (aZ w0 G fun u G'=>av G' (.sl 1 ((eO e).map fun k=>[li k])) u):=by
  refine eN [(0,_)] func228 rfl ntmps228 rfl rfl hG ?_;intro a H;refine kP H (SR fun _ K1=>ak K1 rfl (SQ fun _ K2=>SR fun _ K3=>Rm rfl (Kz K3 (SB (SQ fun _ K4=>SR fun _ K5=>Rc rfl (ak K5 rfl (Cd rfl ?_ ?_))))))) <;> clear H K1 K3 K5
  · intro h4 a H
    try have p4:=dT h4
    refine kP H (Kc K4 (Ct rfl h4 (SR fun _ K6=>?_)));clear H K4;intro a H;refine iE uo aH [_] [_] H wn rfl rfl rfl rfl rfl (by intro i q h;match i,h with|0,h=>exact h|n+1,h=>simp at h) rfl rfl ?_;clear H;intro b9 a w Bo H;refine kH H (ak K6 rfl ?_);clear H K6;intro a H;refine lr H results228 rfl ?_
    first
      | exact H.rt (by rw [eO,ah (by omega),ah (by omega),ah (by omega),ah (by omega),ah (by omega),ah (by omega)];exact av.lg rfl (by decide))
      | (obtain ⟨Gz,hmz,hbz,H⟩:=H.eH
         first
           | exact H.rt (by rw [eO,au (by omega)];exact av.fE (n:=1) (cap:=1) hbz rfl (bM _) (show 1≤maxLen by decide) rfl (fT _ [1]))
           | exact H.rt (by rw [eO,ah (by omega),au (by omega)];exact av.fE (n:=2) (cap:=2) hbz rfl (bM _) (show 2≤maxLen by decide) rfl (fT _ [1,2]))
           | exact H.rt (by rw [eO,ah (by omega),ah (by omega),au (by omega)];exact av.fE (n:=1) (cap:=1) hbz rfl (bM _) (show 1≤maxLen by decide) rfl (fT _ [3]))
           | exact H.rt (by rw [eO,ah (by omega),ah (by omega),ah (by omega),au (by omega)];exact av.fE (n:=1) (cap:=1) hbz rfl (bM _) (show 1≤maxLen by decide) rfl (fT _ [6]))
           | exact H.rt (by rw [eO,ah (by omega),ah (by omega),ah (by omega),ah (by omega),au (by omega)];exact av.fE (n:=1) (cap:=1) hbz rfl (bM _) (show 1≤maxLen by decide) rfl (fT _ [4]))
           | exact H.rt (by rw [eO,ah (by omega),ah (by omega),ah (by omega),ah (by omega),ah (by omega),au (by omega)];exact av.fE (n:=1) (cap:=1) hbz rfl (bM _) (show 1≤maxLen by decide) rfl (fT _ [5])))
  intro h4 a H
  try have p4:=dF h4
  refine kP H (SR fun _ K7=>Rc rfl (ak K7 rfl (Cd rfl ?_ ?_))) <;> clear H K7
  · intro h4 a H
    try have p4:=dT h4
    refine kP H (Kc K4 (Ct rfl h4 (SR fun _ K8=>?_)));clear H K4;intro a H;refine iE uo aH [_] [_] H wn rfl rfl rfl rfl rfl (by intro i q h;match i,h with|0,h=>exact h|n+1,h=>simp at h) rfl rfl ?_;clear H;intro b9 a w Bo H;refine kH H (ak K8 rfl ?_);clear H K8;intro a H;refine lr H results228 rfl ?_
    first
      | exact H.rt (by rw [eO,ah (by omega),ah (by omega),ah (by omega),ah (by omega),ah (by omega),ah (by omega)];exact av.lg rfl (by decide))
      | (obtain ⟨Gz,hmz,hbz,H⟩:=H.eH
         first
           | exact H.rt (by rw [eO,au (by omega)];exact av.fE (n:=1) (cap:=1) hbz rfl (bM _) (show 1≤maxLen by decide) rfl (fT _ [1]))
           | exact H.rt (by rw [eO,ah (by omega),au (by omega)];exact av.fE (n:=2) (cap:=2) hbz rfl (bM _) (show 2≤maxLen by decide) rfl (fT _ [1,2]))
           | exact H.rt (by rw [eO,ah (by omega),ah (by omega),au (by omega)];exact av.fE (n:=1) (cap:=1) hbz rfl (bM _) (show 1≤maxLen by decide) rfl (fT _ [3]))
           | exact H.rt (by rw [eO,ah (by omega),ah (by omega),ah (by omega),au (by omega)];exact av.fE (n:=1) (cap:=1) hbz rfl (bM _) (show 1≤maxLen by decide) rfl (fT _ [6]))
           | exact H.rt (by rw [eO,ah (by omega),ah (by omega),ah (by omega),ah (by omega),au (by omega)];exact av.fE (n:=1) (cap:=1) hbz rfl (bM _) (show 1≤maxLen by decide) rfl (fT _ [4]))
           | exact H.rt (by rw [eO,ah (by omega),ah (by omega),ah (by omega),ah (by omega),ah (by omega),au (by omega)];exact av.fE (n:=1) (cap:=1) hbz rfl (bM _) (show 1≤maxLen by decide) rfl (fT _ [5])))
  intro h4 a H
  try have p4:=dF h4
  refine kP H (SR fun _ K9=>Rc rfl (ak K9 rfl (Cd rfl ?_ ?_))) <;> clear H K9
  · intro h4 a H
    try have p4:=dT h4
    refine kP H (Kc K4 (Ct rfl h4 (SR fun _ aR=>?_)));clear H K4;intro a H;refine iE uo aH [_] [_] H wn rfl rfl rfl rfl rfl (by intro i q h;match i,h with|0,h=>exact h|n+1,h=>simp at h) rfl rfl ?_;clear H;intro b9 a w Bo H;refine kH H (ak aR rfl ?_);clear H aR;intro a H;refine lr H results228 rfl ?_
    first
      | exact H.rt (by rw [eO,ah (by omega),ah (by omega),ah (by omega),ah (by omega),ah (by omega),ah (by omega)];exact av.lg rfl (by decide))
      | (obtain ⟨Gz,hmz,hbz,H⟩:=H.eH
         first
           | exact H.rt (by rw [eO,au (by omega)];exact av.fE (n:=1) (cap:=1) hbz rfl (bM _) (show 1≤maxLen by decide) rfl (fT _ [1]))
           | exact H.rt (by rw [eO,ah (by omega),au (by omega)];exact av.fE (n:=2) (cap:=2) hbz rfl (bM _) (show 2≤maxLen by decide) rfl (fT _ [1,2]))
           | exact H.rt (by rw [eO,ah (by omega),ah (by omega),au (by omega)];exact av.fE (n:=1) (cap:=1) hbz rfl (bM _) (show 1≤maxLen by decide) rfl (fT _ [3]))
           | exact H.rt (by rw [eO,ah (by omega),ah (by omega),ah (by omega),au (by omega)];exact av.fE (n:=1) (cap:=1) hbz rfl (bM _) (show 1≤maxLen by decide) rfl (fT _ [6]))
           | exact H.rt (by rw [eO,ah (by omega),ah (by omega),ah (by omega),ah (by omega),au (by omega)];exact av.fE (n:=1) (cap:=1) hbz rfl (bM _) (show 1≤maxLen by decide) rfl (fT _ [4]))
           | exact H.rt (by rw [eO,ah (by omega),ah (by omega),ah (by omega),ah (by omega),ah (by omega),au (by omega)];exact av.fE (n:=1) (cap:=1) hbz rfl (bM _) (show 1≤maxLen by decide) rfl (fT _ [5])))
  intro h4 a H
  try have p4:=dF h4
  refine kP H (SC (Rc rfl (bq K4 rfl (Cd rfl ?_ ?_)))) <;> clear H K4
  · intro h4 a H
    try have p4:=dT h4
    refine cu (fun _ bQ=>?_);refine iE uo aH [_] [_] H wn rfl rfl rfl rfl rfl (by intro i q h;match i,h with|0,h=>exact h|n+1,h=>simp at h) rfl rfl ?_;clear H;intro b9 a w Bo H;refine kH H (ak bQ rfl ?_);clear H bQ;intro a H;refine lr H results228 rfl ?_
    first
      | exact H.rt (by rw [eO,ah (by omega),ah (by omega),ah (by omega),ah (by omega),ah (by omega),ah (by omega)];exact av.lg rfl (by decide))
      | (obtain ⟨Gz,hmz,hbz,H⟩:=H.eH
         first
           | exact H.rt (by rw [eO,au (by omega)];exact av.fE (n:=1) (cap:=1) hbz rfl (bM _) (show 1≤maxLen by decide) rfl (fT _ [1]))
           | exact H.rt (by rw [eO,ah (by omega),au (by omega)];exact av.fE (n:=2) (cap:=2) hbz rfl (bM _) (show 2≤maxLen by decide) rfl (fT _ [1,2]))
           | exact H.rt (by rw [eO,ah (by omega),ah (by omega),au (by omega)];exact av.fE (n:=1) (cap:=1) hbz rfl (bM _) (show 1≤maxLen by decide) rfl (fT _ [3]))
           | exact H.rt (by rw [eO,ah (by omega),ah (by omega),ah (by omega),au (by omega)];exact av.fE (n:=1) (cap:=1) hbz rfl (bM _) (show 1≤maxLen by decide) rfl (fT _ [6]))
           | exact H.rt (by rw [eO,ah (by omega),ah (by omega),ah (by omega),ah (by omega),au (by omega)];exact av.fE (n:=1) (cap:=1) hbz rfl (bM _) (show 1≤maxLen by decide) rfl (fT _ [4]))
           | exact H.rt (by rw [eO,ah (by omega),ah (by omega),ah (by omega),ah (by omega),ah (by omega),au (by omega)];exact av.fE (n:=1) (cap:=1) hbz rfl (bM _) (show 1≤maxLen by decide) rfl (fT _ [5])))
  intro h4 a H
  try have p4:=dF h4
  refine kP H (SR fun _ bY=>Rc rfl (ak bY rfl (Cd rfl ?_ ?_))) <;> clear H bY
  · intro h10 a H
    try have kV:=dT h10
    refine cu (fun _ cZ=>?_);refine iE uo aH [_,_] [_,_] H wn rfl rfl rfl rfl rfl (by intro i q h;match i,h with|0,h=>exact h|1,h=>exact h|n+2,h=>simp at h) rfl rfl ?_;clear H;intro b12 a w FU H;refine kH H (ak cZ rfl ?_);clear H cZ;intro a H;refine lr H results228 rfl ?_
    first
      | exact H.rt (by rw [eO,ah (by omega),ah (by omega),ah (by omega),ah (by omega),ah (by omega),ah (by omega)];exact av.lg rfl (by decide))
      | (obtain ⟨Gz,hmz,hbz,H⟩:=H.eH
         first
           | exact H.rt (by rw [eO,au (by omega)];exact av.fE (n:=1) (cap:=1) hbz rfl (bM _) (show 1≤maxLen by decide) rfl (fT _ [1]))
           | exact H.rt (by rw [eO,ah (by omega),au (by omega)];exact av.fE (n:=2) (cap:=2) hbz rfl (bM _) (show 2≤maxLen by decide) rfl (fT _ [1,2]))
           | exact H.rt (by rw [eO,ah (by omega),ah (by omega),au (by omega)];exact av.fE (n:=1) (cap:=1) hbz rfl (bM _) (show 1≤maxLen by decide) rfl (fT _ [3]))
           | exact H.rt (by rw [eO,ah (by omega),ah (by omega),ah (by omega),au (by omega)];exact av.fE (n:=1) (cap:=1) hbz rfl (bM _) (show 1≤maxLen by decide) rfl (fT _ [6]))
           | exact H.rt (by rw [eO,ah (by omega),ah (by omega),ah (by omega),ah (by omega),au (by omega)];exact av.fE (n:=1) (cap:=1) hbz rfl (bM _) (show 1≤maxLen by decide) rfl (fT _ [4]))
           | exact H.rt (by rw [eO,ah (by omega),ah (by omega),ah (by omega),ah (by omega),ah (by omega),au (by omega)];exact av.fE (n:=1) (cap:=1) hbz rfl (bM _) (show 1≤maxLen by decide) rfl (fT _ [5])))
  intro h10 a H
  try have kV:=dF h10
  refine kP H (SR fun _ dG=>Rc rfl (ak dG rfl (Cd rfl ?_ ?_))) <;> clear H dG
  · intro gG a H
    try have rz:=dT gG
    refine cu (fun _ dZ=>?_);refine iE uo aH [_] [_] H wn rfl rfl rfl rfl rfl (by intro i q h;match i,h with|0,h=>exact h|n+1,h=>simp at h) rfl rfl ?_;clear H;intro b15 a w akq H;refine kH H (ak dZ rfl ?_);clear H dZ;intro a H;refine lr H results228 rfl ?_
    first
      | exact H.rt (by rw [eO,ah (by omega),ah (by omega),ah (by omega),ah (by omega),ah (by omega),ah (by omega)];exact av.lg rfl (by decide))
      | (obtain ⟨Gz,hmz,hbz,H⟩:=H.eH
         first
           | exact H.rt (by rw [eO,au (by omega)];exact av.fE (n:=1) (cap:=1) hbz rfl (bM _) (show 1≤maxLen by decide) rfl (fT _ [1]))
           | exact H.rt (by rw [eO,ah (by omega),au (by omega)];exact av.fE (n:=2) (cap:=2) hbz rfl (bM _) (show 2≤maxLen by decide) rfl (fT _ [1,2]))
           | exact H.rt (by rw [eO,ah (by omega),ah (by omega),au (by omega)];exact av.fE (n:=1) (cap:=1) hbz rfl (bM _) (show 1≤maxLen by decide) rfl (fT _ [3]))
           | exact H.rt (by rw [eO,ah (by omega),ah (by omega),ah (by omega),au (by omega)];exact av.fE (n:=1) (cap:=1) hbz rfl (bM _) (show 1≤maxLen by decide) rfl (fT _ [6]))
           | exact H.rt (by rw [eO,ah (by omega),ah (by omega),ah (by omega),ah (by omega),au (by omega)];exact av.fE (n:=1) (cap:=1) hbz rfl (bM _) (show 1≤maxLen by decide) rfl (fT _ [4]))
           | exact H.rt (by rw [eO,ah (by omega),ah (by omega),ah (by omega),ah (by omega),ah (by omega),au (by omega)];exact av.fE (n:=1) (cap:=1) hbz rfl (bM _) (show 1≤maxLen by decide) rfl (fT _ [5])))
  intro gG a H
  try have rz:=dF gG
  refine kP H (SR fun _ eB=>Rc rfl (ak eB rfl (Cd rfl ?_ ?_))) <;> clear H eB
  · intro h16 a H
    try have p16:=dT h16
    refine cu (fun _ dW=>?_);refine iE uo aH [_] [_] H wn rfl rfl rfl rfl rfl (by intro i q h;match i,h with|0,h=>exact h|n+1,h=>simp at h) rfl rfl ?_;clear H;intro b18 a w Nr H;refine kH H (ak dW rfl ?_);clear H dW;intro a H;refine lr H results228 rfl ?_
    first
      | exact H.rt (by rw [eO,ah (by omega),ah (by omega),ah (by omega),ah (by omega),ah (by omega),ah (by omega)];exact av.lg rfl (by decide))
      | (obtain ⟨Gz,hmz,hbz,H⟩:=H.eH
         first
           | exact H.rt (by rw [eO,au (by omega)];exact av.fE (n:=1) (cap:=1) hbz rfl (bM _) (show 1≤maxLen by decide) rfl (fT _ [1]))
           | exact H.rt (by rw [eO,ah (by omega),au (by omega)];exact av.fE (n:=2) (cap:=2) hbz rfl (bM _) (show 2≤maxLen by decide) rfl (fT _ [1,2]))
           | exact H.rt (by rw [eO,ah (by omega),ah (by omega),au (by omega)];exact av.fE (n:=1) (cap:=1) hbz rfl (bM _) (show 1≤maxLen by decide) rfl (fT _ [3]))
           | exact H.rt (by rw [eO,ah (by omega),ah (by omega),ah (by omega),au (by omega)];exact av.fE (n:=1) (cap:=1) hbz rfl (bM _) (show 1≤maxLen by decide) rfl (fT _ [6]))
           | exact H.rt (by rw [eO,ah (by omega),ah (by omega),ah (by omega),ah (by omega),au (by omega)];exact av.fE (n:=1) (cap:=1) hbz rfl (bM _) (show 1≤maxLen by decide) rfl (fT _ [4]))
           | exact H.rt (by rw [eO,ah (by omega),ah (by omega),ah (by omega),ah (by omega),ah (by omega),au (by omega)];exact av.fE (n:=1) (cap:=1) hbz rfl (bM _) (show 1≤maxLen by decide) rfl (fT _ [5])))
  intro h16 a H
  try have p16:=dF h16
  refine kP H (SR fun _ fC=>Rc rfl (ak fC rfl (Cd rfl ?_ ?_))) <;> clear H fC
  · intro h19 a H
    try have uf:=dT h19
    refine cu (fun _ gQ=>?_);refine iE uo aH [_] [_] H wn rfl rfl rfl rfl rfl (by intro i q h;match i,h with|0,h=>exact h|n+1,h=>simp at h) rfl rfl ?_;clear H;intro b21 a w asS H;refine kH H (ak gQ rfl ?_);clear H gQ;intro a H;refine lr H results228 rfl ?_
    first
      | exact H.rt (by rw [eO,ah (by omega),ah (by omega),ah (by omega),ah (by omega),ah (by omega),ah (by omega)];exact av.lg rfl (by decide))
      | (obtain ⟨Gz,hmz,hbz,H⟩:=H.eH
         first
           | exact H.rt (by rw [eO,au (by omega)];exact av.fE (n:=1) (cap:=1) hbz rfl (bM _) (show 1≤maxLen by decide) rfl (fT _ [1]))
           | exact H.rt (by rw [eO,ah (by omega),au (by omega)];exact av.fE (n:=2) (cap:=2) hbz rfl (bM _) (show 2≤maxLen by decide) rfl (fT _ [1,2]))
           | exact H.rt (by rw [eO,ah (by omega),ah (by omega),au (by omega)];exact av.fE (n:=1) (cap:=1) hbz rfl (bM _) (show 1≤maxLen by decide) rfl (fT _ [3]))
           | exact H.rt (by rw [eO,ah (by omega),ah (by omega),ah (by omega),au (by omega)];exact av.fE (n:=1) (cap:=1) hbz rfl (bM _) (show 1≤maxLen by decide) rfl (fT _ [6]))
           | exact H.rt (by rw [eO,ah (by omega),ah (by omega),ah (by omega),ah (by omega),au (by omega)];exact av.fE (n:=1) (cap:=1) hbz rfl (bM _) (show 1≤maxLen by decide) rfl (fT _ [4]))
           | exact H.rt (by rw [eO,ah (by omega),ah (by omega),ah (by omega),ah (by omega),ah (by omega),au (by omega)];exact av.fE (n:=1) (cap:=1) hbz rfl (bM _) (show 1≤maxLen by decide) rfl (fT _ [5])))
  intro h19 a H
  try have uf:=dF h19
  refine kP H (SR fun _ fM=>Rc rfl (ak fM rfl (Cd rfl ?_ ?_))) <;> clear H fM
  · intro h22 a H
    try have iZ:=dT h22
    refine cu (fun _ gV=>?_);refine iE uo aH [_] [_] H wn rfl rfl rfl rfl rfl (by intro i q h;match i,h with|0,h=>exact h|n+1,h=>simp at h) rfl rfl ?_;clear H;intro b24 a w asU H;refine kH H (ak gV rfl ?_);clear H gV;intro a H;refine lr H results228 rfl ?_
    first
      | exact H.rt (by rw [eO,ah (by omega),ah (by omega),ah (by omega),ah (by omega),ah (by omega),ah (by omega)];exact av.lg rfl (by decide))
      | (obtain ⟨Gz,hmz,hbz,H⟩:=H.eH
         first
           | exact H.rt (by rw [eO,au (by omega)];exact av.fE (n:=1) (cap:=1) hbz rfl (bM _) (show 1≤maxLen by decide) rfl (fT _ [1]))
           | exact H.rt (by rw [eO,ah (by omega),au (by omega)];exact av.fE (n:=2) (cap:=2) hbz rfl (bM _) (show 2≤maxLen by decide) rfl (fT _ [1,2]))
           | exact H.rt (by rw [eO,ah (by omega),ah (by omega),au (by omega)];exact av.fE (n:=1) (cap:=1) hbz rfl (bM _) (show 1≤maxLen by decide) rfl (fT _ [3]))
           | exact H.rt (by rw [eO,ah (by omega),ah (by omega),ah (by omega),au (by omega)];exact av.fE (n:=1) (cap:=1) hbz rfl (bM _) (show 1≤maxLen by decide) rfl (fT _ [6]))
           | exact H.rt (by rw [eO,ah (by omega),ah (by omega),ah (by omega),ah (by omega),au (by omega)];exact av.fE (n:=1) (cap:=1) hbz rfl (bM _) (show 1≤maxLen by decide) rfl (fT _ [4]))
           | exact H.rt (by rw [eO,ah (by omega),ah (by omega),ah (by omega),ah (by omega),ah (by omega),au (by omega)];exact av.fE (n:=1) (cap:=1) hbz rfl (bM _) (show 1≤maxLen by decide) rfl (fT _ [5])))
  intro h22 a H
  try have iZ:=dF h22
  refine kP H (Kc K2 (SR fun _ jo=>ak jo rfl ?_));clear H K2 jo;intro a H;refine lr H results228 rfl ?_
  first
    | exact H.rt (by rw [eO,ah (by omega),ah (by omega),ah (by omega),ah (by omega),ah (by omega),ah (by omega)];exact av.lg rfl (by decide))
    | (obtain ⟨Gz,hmz,hbz,H⟩:=H.eH
       first
         | exact H.rt (by rw [eO,au (by omega)];exact av.fE (n:=1) (cap:=1) hbz rfl (bM _) (show 1≤maxLen by decide) rfl (fT _ [1]))
         | exact H.rt (by rw [eO,ah (by omega),au (by omega)];exact av.fE (n:=2) (cap:=2) hbz rfl (bM _) (show 2≤maxLen by decide) rfl (fT _ [1,2]))
         | exact H.rt (by rw [eO,ah (by omega),ah (by omega),au (by omega)];exact av.fE (n:=1) (cap:=1) hbz rfl (bM _) (show 1≤maxLen by decide) rfl (fT _ [3]))
         | exact H.rt (by rw [eO,ah (by omega),ah (by omega),ah (by omega),au (by omega)];exact av.fE (n:=1) (cap:=1) hbz rfl (bM _) (show 1≤maxLen by decide) rfl (fT _ [6]))
         | exact H.rt (by rw [eO,ah (by omega),ah (by omega),ah (by omega),ah (by omega),au (by omega)];exact av.fE (n:=1) (cap:=1) hbz rfl (bM _) (show 1≤maxLen by decide) rfl (fT _ [4]))
         | exact H.rt (by rw [eO,ah (by omega),ah (by omega),ah (by omega),ah (by omega),ah (by omega),au (by omega)];exact av.fE (n:=1) (cap:=1) hbz rfl (bM _) (show 1≤maxLen by decide) rfl (fT _ [5])))
theorem amH {G:GH} {l:List Int} {A:Option Addr} {n c k:Nat} (hv:av G (.sl 1 (l.map fun k=>[li k])) (.slice A n c)) (hk:k < l.length):∃ b o,A=some ⟨b,o,none⟩∧aI G b (o+k*1)=some (vi l[k]):=by
 obtain ⟨A',c',he,_,_,hg⟩:=hv.slice
 injection he with e1 e2 e3
 subst e1;obtain ⟨b,o,cs,h1,h2,h3,h4⟩:=hg k [li l[k]] (by simp [hk])
 simp only [aU,av] at h4
 obtain ⟨v1,_,rfl,⟨rfl,-⟩,rfl⟩:=h4;exact ⟨b,o,h1,h3 0 _ rfl⟩
theorem amC (G:GH) (w0:World) (hG:Hold G w0) (l:List Int) (t:Int) (v:aj) (hv:av G (.sl 1 (l.map fun k=>[li k])) v) :
  Calls prog 254 #[v,vi t] w0 (aZ w0 G fun u G'=>u=vi (mQ (l.findIdx? fun x=>decide (t=x)))):=by
 obtain ⟨A,c,rfl,hc1,hc2,-⟩:=hv.slice;have hml:maxLen=9223372036854775807:=rfl;rw [bG] at *;refine eN [(0,_),(1,_)] func254 rfl ntmps254 rfl rfl hG ?_;intro a H;refine kP H (SR fun _ K1=>ak K1 rfl (SQ fun _ K2=>SR fun _ K3=>Rm rfl (Rl uo rfl (Rm rfl (Kz K3 (SB ?_))))));clear H K1 K3;intro a H;skip;refine eU (ι:=Nat) (Tc:=[(0,_),(1,_),(7,_)]) (Lc:=[]) (fun gh=>[(8,vi gh)]) (fun gh=>[]) (fun gh=>G) (fun gh=>gh≤l.length∧(l.take gh).findIdx? (fun x=>decide (t=x))=none) (fun gh=>l.length - gh) (0) (by exact (H).sub ⟨rfl,rfl,rfl,rfl,aC⟩) ?_ ?_
 ·exact ⟨gW _,rfl⟩
 clear H;intro k a w hI H;obtain ⟨hk,hno⟩:=hI;dsimp only [lca,bJ] at H;refine kP H (SR fun _ K4=>Rc rfl (Kz K4 (SQ fun _ K5=>Cd rfl ?_ ?_))) <;> clear H K4
 ·intro h9 a H
  try have p9:=dT h9
  have hk2:k < l.length:=by omega
  obtain ⟨b,o,rfl,hrow⟩:=amH hv hk2;refine kP H (Kc K5 (SQ fun _ K6=>SB (SR fun _ K7=>Rm rfl (ak K7 rfl (SR fun _ K8=>Rm rfl (Rm rfl (Rm rfl (Ri uo aH rfl rfl (Rg aH rfl (by assumption) ?_)))))))));clear H K5 K7;intro a H;refine kH H (Rc rfl (Kz K8 (Cd rfl ?_ ?_))) <;> clear H K8
  ·intro h16 a H
   try have p16:=dT h16
   exact kP H (SR fun _ K9=>Rm rfl (ak K9 rfl (LR results254 rfl fun H=>H.rt (by rw [pY hk2 hno (by simpa using p16)];rfl))))
  intro h16 a H
  try have p16:=dF h16
  refine kP H (Kc K6 (SC (Rd rfl (Rm rfl ?_))));clear H K6;intro a H;refine aD ?_;refine dD ((k+1)) (by exact (H).sub ⟨rfl,rfl,rfl,rfl,aC⟩) ?_
  exact ⟨by omega,Ac hk2 hno (by simpa using p16)⟩
 intro h9 a H
 try have p9:=dF h9
 refine dV ?_;refine K2 _ _ ?_;clear K2;exact kP H (SR fun _ aR=>ak aR rfl (LR results254 rfl fun H=>H.rt (by rw [show l.take k=l from iC (by omega)] at hno;rw [hno];rfl)))
theorem afE (G:GH) (w0:World) (hG:Hold G w0) (l:List Int) (t:Int) (v:aj) (hv:av G (.sl 1 (l.map fun k=>[li k])) v) :
  Calls prog 227 #[v,vi t] w0 (aZ w0 G fun u G'=>u=.bool (decide (t∈l))):=by
 obtain ⟨A,c,rfl,hc1,hc2,-⟩:=hv.slice;rw [bG] at *;refine eN [(0,_),(1,_)] func227 rfl ntmps227 rfl rfl hG ?_;intro a H;refine kP H (SR fun _ K1=>ak K1 rfl (SR fun _ K2=>Rm rfl (Rm rfl ?_)));clear H K1;intro a H;refine s_call ahS H wn rfl (amC _ _ H.ro l t _ hv) rfl ?_;clear H;rintro v7 G7 a w rfl CX H;refine kH H (Rc rfl (ak K2 rfl ?_));clear H K2;intro a H;refine lr H results227 rfl ?_
 exact H.rt (by
  congr 1
  cases h:l.findIdx? (fun x=>decide (t=x)) with
  | none =>
   rw [List.findIdx?_eq_none_iff] at h;have:t∉l:=fun hm=>absurd (h t hm) (by simp)
   simp [mQ,this]
  | some i =>
   obtain ⟨hi,he,-⟩:=List.findIdx?_eq_some_iff_getElem.1 h
   have:t∈l:=by rw [nK he];exact kS _
   simp [mQ,this])
def vK (e k:Int):Bool:=(uM k).2 && decide ((uM k).1.Io∈eO e)
theorem YU (G:GH) (w0:World) (hG:Hold G w0) (e k:Int):Calls prog 194 #[vi e,vi k] w0 (aZ w0 G fun u G'=>u=.bool (vK e k)):=by
 refine eN [(0,_),(1,_)] func194 rfl ntmps194 rfl rfl hG ?_;intro a H;refine kP H (SR fun _ K1=>ak K1 rfl (SR fun _ K2=>Rm rfl ?_));clear H K1;intro a H;refine s_call Ye H wn rfl (find_spec _ _ H.ro k) rfl ?_;clear H;rintro v9 G9 a w rfl tN H;dsimp only [jX.cells] at H;refine kH H (Rm rfl ?_);clear H;intro a H;(iterate 2 refine lq H wn rfl rfl rfl ?_;clear H;intro a H);refine dS uX H wn rfl ?_;clear H;intro b5 a w hb5 H;refine bD uX 0 (vs:=[_,_,_,_,_,_]) _ H wn rfl rfl rfl rfl rfl rfl rfl rfl ?_;clear H;intro w H;dsimp only [List.set,setRow] at H;refine kH H (ak K2 rfl (SQ fun _ K3=>?_));clear H K2;intro a H
 by_cases c0:(uM k).2=true
 ·skip
  have qC:Ch (fun (dB:Nat) (v:aj) (G:GH)=>match dB with|0=>v=.bool (uM k).2|1=>v=.bool (decide ((uM k).2=true))|2=>v=vi e|3=>(uM k).2=true→av G (.sl 1 ((eO e).map fun k=>[li k])) v|4=>v=(aK b5 1)|5=>v=vi (uM k).1.Io|6=>v=.bool (decide ((uM k).1.Io∈eO e))|7=>v=.bool (vK e k)|_=>True):=by intro dB v G G' hm h;(iterate 9 (rcases dB with _|dB;(first|exact h|exact fun hf=>(h hf).mono hm)));exact trivial
  refine Bb (hmx) [[],[0],[0,1],[0,1,2],[0,1],[0,1,4],(ra 0 6),(ra 0 7),(ra 0 8)] [8] (by kernel_rfl) (by kernel_rfl) _ qC H ?_ ?_
  ·clear H;refine aF ?_ ?_ ?_ ?_ (aF ?_ ?_ ?_ ?_ (bR (bS rfl) dz))
   ·refine dX [] rfl trivial (by kernel_rfl) qC rfl rfl ?_;intro bB a w G1 hG HT H fin;exact kH H (Rm rfl fun _ H=>fin H iJ rfl)
   ·refine dX [(0,12,_)] rfl ⟨fun _ _ h=>h,aC⟩ (by kernel_rfl) qC rfl rfl ?_;intro bB a w G1 hG HT H fin;refine kH H (Rm rfl ?_);clear H;intro a H;exact fin H iJ (by simp)
   ·refine dX [(1,13,_)] rfl ⟨fun _ _ h=>h,aC⟩ (by kernel_rfl) qC rfl rfl ?_;intro bB a w G1 hG HT H fin;exact kH H (YM (aG c0) rfl fun _ H=>fin H iJ rfl)
   ·refine dX [(2,14,_),(1,13,_)] rfl ⟨fun _ _ h=>h,fun _ _ h=>h,aC⟩ (by kernel_rfl) qC rfl rfl ?_;intro bB a w G1 hG HT H fin;refine s_call ahG H (wg H rfl rfl (aG c0)) rfl (ajM _ _ H.ro e) rfl ?_;clear H;rintro v15 EY a w Ev CF H;exact fin H CF (by first|exact fun _=>Ev|rfl)
   ·refine dX [(1,13,_)] rfl ⟨fun _ _ h=>h,aC⟩ (by kernel_rfl) qC rfl rfl ?_;intro bB a w G1 hG HT H fin;exact kH H (YF ajf (aG c0) rfl fun _ H=>fin H iJ rfl)
   ·refine dX [(4,16,_),(1,13,_)] rfl ⟨fun _ _ h=>h,fun _ _ h=>h,aC⟩ (by kernel_rfl) qC rfl rfl ?_;intro bB a w G1 hG HT H fin;exact kH H (YO aH 0 (aG c0) rfl fun _ H=>fin H iJ rfl)
   ·intro bB a w G1 _ aP hc hG HT hv;have H:=HT;clear aP;obtain ⟨u15,amm,Ev⟩:=hv 3 15 (hc 3 (by decide)) rfl;(try dsimp only at Ev);have H:=H.jR amm;have H:=H.aM (hv 5 17 (hc 5 (by decide)) rfl) rfl;have H:=H.aM (hv 1 13 (hc 1 (by decide)) rfl) rfl;have Hb:=H.full;have H:=Hb;clear hc;refine s_call ahF H (wg H rfl rfl (aG c0)) rfl (afE _ _ H.ro _ _ _ (Ev c0)) rfl ?_;clear H;rintro v18 PE a w rfl ajR H;refine aD ⟨rfl,?_⟩;exact fF (by kernel_rfl) qC rfl rfl HT Hb hG hv ajR (rfl) H
   refine dX [(1,13,_),(6,18,_)] rfl ⟨fun _ _ h=>h,fun _ _ h=>h,aC⟩ (by kernel_rfl) qC rfl rfl ?_;intro bB a w G1 hG HT H fin;refine kH H (Pt (aG c0) rfl ?_);clear H;intro a H;exact fin H iJ (by unfold vK;simp_all)
  clear H;intro a w G CG H hv;have H:=H.aM (hv 7 19 rfl rfl) rfl;clear hv;refine kH H (Ra rfl ?_);clear H;intro a H;refine aD ⟨rfl,?_⟩;refine K3 _ _ ?_;clear K3;refine lr H results194 rfl ?_;exact H.rt rfl
 skip;refine dI hmx [[],[0],[0,1],[0,1,2],[0,1],[0,1,4],(ra 0 6),(ra 0 7),(ra 0 8)] [8] (by kernel_rfl) [_,.bool (decide ((uM k).2=true)),undef,undef,undef,undef,undef,.bool (vK e k)] H (aF (Z0 rfl (Rm rfl)) ?_ (aV 1 (aS c0) rfl rfl) ?_ (aF (aV 1 (aS c0) rfl rfl) (aV 1 (aS c0) rfl rfl) (aV 1 (aS c0) rfl rfl) ?_ (bR (bS rfl) dz))) ?_
 ·refine fq 0 12 rfl rfl fun _ a w G1 hG HT H fin=>?_;refine kH H (Rm rfl ?_);clear H;intro a H;exact fin H iJ (by show _=_;simp)
 ·intro bB a w G1 _ aP hc hG HT hv;have H:=HT;clear aP;have H:=H.aM (hv 2 14 (hc 2 (by decide)) rfl) rfl;have H:=H.aM (hv 1 13 (hc 1 (by decide)) rfl) rfl;have Hb:=H.full;have H:=Hb;clear hc;refine kH H (Ks (aS c0) rfl ?_);clear H;intro a H;refine aD ⟨rfl,?_⟩;exact fF (by kernel_rfl) (fun _ _ _ _ _ h=>h) rfl rfl HT Hb hG hv (fun _ _ h=>h) (by first|exact fun _=>Ev|rfl) H
 ·refine dJ 1 13 6 18 rfl rfl fun _ a w G1 hG HT H fin=>?_;refine kH H (Pf (aS c0) rfl ?_);clear H;intro a H;exact fin H iJ (by show _=_;unfold vK;simp_all)
 clear H;intro a w G CG H hv;have H:=H.aM (hv 7 19 rfl rfl) rfl;clear hv;refine kH H (Ra rfl ?_);clear H;intro a H;refine aD ⟨rfl,?_⟩;refine K3 _ _ ?_;clear K3;refine lr H results194 rfl ?_;exact H.rt rfl
def sZ (k v:Int):Int:=if (uM k).2=false then 4 else if v < (uM k).1.low∨(uM k).1.high < v then 5 else 0
theorem Qq (G:GH) (w0:World) (hG:Hold G w0) (k x:Int):Calls prog 195 #[vi k,vi x] w0 (aZ w0 G fun u G'=>u=vi (sZ k x)):=by
 refine eN [(0,_),(1,_)] func195 rfl ntmps195 rfl rfl hG ?_;intro a H;refine kP H (SR fun _ K1=>ak K1 rfl (SR fun _ K2=>Rm rfl ?_));clear H K1;intro a H;refine s_call Ye H wn rfl (find_spec _ _ H.ro k) rfl ?_;clear H;rintro v9 G9 a w rfl tN H;dsimp only [jX.cells] at H;refine kH H (Rm rfl ?_);clear H;intro a H;(iterate 2 refine lq H wn rfl rfl rfl ?_;clear H;intro a H);refine dS uX H wn rfl ?_;clear H;intro b5 a w hb5 H;refine bD uX 0 (vs:=[_,_,_,_,_,_]) _ H wn rfl rfl rfl rfl rfl rfl rfl rfl ?_;clear H;intro w H;dsimp only [List.set,setRow] at H;refine kH H (ak K2 rfl (SQ fun _ K3=>SB (SR fun _ K4=>Rm rfl (Rn rfl (ak K4 rfl (Cd rfl ?_ ?_)))))) <;> clear H K2 K4
 ·intro h12 a H
  try have qb:=dT h12
  exact kP H (SR fun _ K5=>ak K5 rfl (LR results195 rfl fun H=>H.rt (by unfold sZ;simp_all)))
 intro h12 a H
 try have qb:=dF h12
 refine kP H (SR fun _ K6=>Rm rfl (aY ajg aH 0 rfl rfl (Rc rfl (Rm rfl (Sp 20 rfl ?_ ?_))))) <;> clear H
 ·intro h20 a H
  try have GK:=dT h20
  exact kH H (aQ h20 rfl (aQ h20 rfl (Pt h20 rfl (ak K6 rfl (Ct rfl rfl (SR fun _ K7=>ak K7 rfl (LR results195 rfl fun H=>H.rt (by unfold sZ;simp_all))))))))
 intro h20 a H
 try have GK:=dF h20
 refine kH H (YM h20 rfl (YF ajh h20 rfl (YO aH 0 h20 rfl (YC h20 rfl (Pf h20 rfl (ak K6 rfl (Cd rfl ?_ ?_))))))) <;> clear H K6
 ·intro iY a H
  try have qd:=dT iY
  exact kP H (SR fun _ K8=>ak K8 rfl (LR results195 rfl fun H=>H.rt (by unfold sZ;simp_all)))
 intro iY a H
 try have qd:=dF iY
 exact kP H (Kc K3 (SR fun _ K9=>ak K9 rfl (LR results195 rfl fun H=>H.rt (by unfold sZ;simp_all))))
theorem X9:∀ args w,(callFunc 194 args).run prog w=.ok (.enter 194 args) w:=enters func194 rfl (by kernel_rfl)
theorem M8:dH prog 187 1 1:=⟨by kernel_rfl⟩
theorem QO:∀ args w,(callFunc 195 args).run prog w=.ok (.enter 195 args) w:=enters func195 rfl (by kernel_rfl)
theorem ahT:∀ args w,(callFunc 260 args).run prog w=.ok (.enter 260 args) w:=enters func260 rfl (by kernel_rfl)
theorem QU:∀ args w,(callFunc 240 args).run prog w=.ok (.enter 240 args) w:=enters func240 rfl (by kernel_rfl)
def EC (q:Option Int) (k:Int):Bool:=match q with|some j=>decide (k < j)|none=>false
def yU (e:Int):Option Int→List aO→Int
 | _,[]=>0
 | q,p :: r=>if vK e p.key=false then 4 else if q=some p.key then 7 else if EC q p.key=true then 6 else if sZ p.key p.value=0 then yU e (some p.key) r else sZ p.key p.value
def Ag (l:List aO) (k:Nat):Option Int:=if k=0 then none else l[k - 1]?.map aO.key
def iy (e:Int) (l:List aO):Int:=if e < 1∨10 < e then 3 else yU e none l
theorem aeV {e:Int} {l:List aO} {k:Nat} (h:k < l.length):yU e (Ag l k) (l.drop k)=if vK e l[k].key=false then 4 else if Ag l k=some l[k].key then 7 else if EC (Ag l k) l[k].key=true then 6 else if sZ l[k].key l[k].value=0 then yU e (Ag l (k+1)) (l.drop (k+1)) else sZ l[k].key l[k].value:=by
 rw [ng h,yU]
 have:Ag l (k+1)=some l[k].key:=by rw [Ag,ah (by omega),Nat.add_sub_cancel,eT h];rfl
 rw [this]
theorem Ow {l:List aO} {k:Nat} (h:k=0):Ag l k=none:=au h
theorem abq (G:GH) (w0:World) (hG:Hold G w0) (e:Int) (l:List aO) (v:aj) (hv:av G (.sl 2 (l.map aO.dat)) v) :
  Calls prog 129 #[vi e,v] w0 (aZ w0 G fun u G'=>u=vi (iy e l)):=by
 obtain ⟨A,c,rfl,hc1,hc2,-⟩:=hv.slice;have hml:maxLen=9223372036854775807:=rfl;rw [bG] at *;refine eN [(0,_),(1,_)] func129 rfl ntmps129 rfl rfl hG ?_;intro a H;refine kP H (SR fun _ K1=>ak K1 rfl (SQ fun _ K2=>SR fun _ K3=>Rm rfl (Rc rfl (Rm rfl (Sp 10 rfl ?_ ?_))))) <;> clear H K1
 ·intro h10 a H
  try have kV:=dT h10
  refine kH H (aQ h10 rfl (Pt h10 rfl (Kz K3 (Ct rfl rfl (SR fun _ K4=>ak K4 rfl ?_)))));clear H K3 K4;intro a H;refine lr H results129 rfl ?_
  first
   | exact H.rt (aB vi (by rw [ah (by simpa using p61)] at heq;rw [iy,ah (by omega)];exact heq))
   | exact H.rt (aB vi (by rw [au (by simpa using h21)] at heq;rw [iy,ah (by omega)];exact heq))
   | exact H.rt (aB vi (by rw [iy,ah (by omega)];exact heq))
   | exact H.rt (aB vi (by rw [iy,ah (by omega),← heq,show l.drop k=[] from jC (by omega)];rfl))
   | exact H.rt (aB vi (by rw [iy,au (by omega)]))
 intro h10 a H
 try have kV:=dF h10
 refine kH H (YM h10 rfl (YC h10 rfl (Pf h10 rfl (Kz K3 (Cd rfl ?_ ?_))))) <;> clear H K3
 ·intro gG a H
  try have rz:=dT gG
  refine kP H (SR fun _ K5=>ak K5 rfl ?_);clear H K5;intro a H;refine lr H results129 rfl ?_
  first
   | exact H.rt (aB vi (by rw [ah (by simpa using p61)] at heq;rw [iy,ah (by omega)];exact heq))
   | exact H.rt (aB vi (by rw [au (by simpa using h21)] at heq;rw [iy,ah (by omega)];exact heq))
   | exact H.rt (aB vi (by rw [iy,ah (by omega)];exact heq))
   | exact H.rt (aB vi (by rw [iy,ah (by omega),← heq,show l.drop k=[] from jC (by omega)];rfl))
   | exact H.rt (aB vi (by rw [iy,au (by omega)]))
 intro gG a H
 try have rz:=dF gG
 refine kP H (Kc K2 (SQ fun _ K6=>SR fun _ K7=>Rm rfl (Rl gy rfl (Rm rfl (Kz K7 (SB ?_))))));clear H K2 K7;intro a H;skip;refine eU (ι:=Nat × GH) (Tc:=[(0,_),(1,_),(14,_),(15,_)]) (Lc:=[]) (fun gh=>[(16,vi gh.1)]) (fun gh=>[]) (fun gh=>gh.2) (fun gh=>gh.1≤l.length∧yU e (Ag l gh.1) (l.drop gh.1)=yU e none l∧(∀ b o,G b=some o→gh.2 b=some o)) (fun gh=>l.length - gh.1) ((0,G)) (by exact (H).sub ⟨rfl,rfl,rfl,rfl,rfl,aC⟩) ?_ ?_
 ·exact ⟨gW _,rfl,fun _ _ h=>h⟩
 clear H;rintro ⟨k,g⟩ a w hI H;dsimp only at hI H;obtain ⟨hk,heq,hgm⟩:=hI;dsimp only [lca,bJ] at H;refine kP H (SR fun _ K8=>Rc rfl (Kz K8 (SQ fun _ K9=>Cd rfl ?_ ?_))) <;> clear H K8
 ·intro eX a H
  try have nA:=dT eX
  have hk2:k < l.length:=by omega
  have BA:=hv.mono hgm;obtain ⟨b,o,rfl,hrow⟩:=GL BA hk2
  obtain ⟨pk,hpk⟩:∃ pk,0 < k→aI g b (o+(k - 1)*2+0)=some (vi pk)∧Ag l k=some pk:=by
   by_cases h0:0 < k
   ·obtain ⟨b',o',he,hr'⟩:=GL BA (show k - 1 < l.length by omega)
    injection he with he
    injection he with e1 e2 e3
    subst e1;subst e2;exact ⟨_,fun _=>⟨hr' 0 _ rfl,by rw [Ag,ah (by omega),eT (by omega)];rfl⟩⟩
   exact ⟨0,fun h=>absurd h h0⟩
  rw [aeV hk2] at heq;have atj:=heq;refine kP H (Kc K9 (SQ fun _ aR=>SB (SR fun _ bQ=>Rm rfl (Ri gy gM rfl rfl ?_))));clear H K9;intro a H;refine bL gM (cs:=[_,_]) H wn rfl rfl (fun j v hj=>H.hp.aI (hrow j v hj)) rfl ?_;clear H;intro a H;refine dS gM H wn rfl ?_;clear H;intro b6 a w hb6 H;refine kH H (Ra rfl ?_);clear H;intro a H;refine bD gM 0 (vs:=[_,_]) _ H wn rfl rfl rfl rfl rfl rfl rfl rfl ?_;clear H;intro w H;dsimp only [List.set,setRow] at H;refine bQ _ _ ?_;clear bQ;refine sW (ι:=GH) (Tc:=[(0,_),(1,_),(6,_),(14,_),(15,_),(16,_)]) (Lc:=[(_,_)]) (fun gh=>[]) (fun gh=>[]) (fun gh=>gh) (fun gh=>(if sZ l[k].key l[k].value=0 then yU e (Ag l (k+1)) (l.drop (k+1)) else sZ l[k].key l[k].value)=yU e none l∧(∀ b o,g b=some o→gh b=some o)) (by exact (H).sub ⟨rfl,rfl,rfl,rfl,rfl,rfl,aC⟩) ?_ ?_
  ·skip;refine kP H (SB (SR fun _ bY=>Rm rfl (aY wS aH 0 rfl rfl ?_)));clear H;intro a H;refine s_call X9 H wn rfl (YU _ _ H.ro e l[k].key) rfl ?_;clear H;rintro v25 Mf a w rfl zV H;replace hrow:=fun j u hj=>aJ zV (hrow j u hj);refine kH H (Rn rfl (ak bY rfl (Cd rfl ?_ ?_))) <;> clear H bY
   ·intro h21 a H
    try have wB:=dT h21
    refine kP H (SR fun _ cZ=>ak cZ rfl ?_);clear H cZ;intro a H;refine lr H results129 rfl ?_
    first
     | exact H.rt (aB vi (by rw [ah (by simpa using p61)] at heq;rw [iy,ah (by omega)];exact heq))
     | exact H.rt (aB vi (by rw [au (by simpa using h21)] at heq;rw [iy,ah (by omega)];exact heq))
     | exact H.rt (aB vi (by rw [iy,ah (by omega)];exact heq))
     | exact H.rt (aB vi (by rw [iy,ah (by omega),← heq,show l.drop k=[] from jC (by omega)];rfl))
     | exact H.rt (aB vi (by rw [iy,au (by omega)]))
   intro h21 a H
   try have wB:=dF h21
   rw [ah (by simpa using h21)] at heq;refine bN (fun _ dG=>?_)
   by_cases c0:0 < (k:Int)
   ·skip
    by_cases c1:l[k].key=pk
    ·skip;refine dI hmx [[],[0],[0,1],[0,1,2],(ra 0 4),[0,1,2],[0,1,2],[0,1,2,6],[0,1,2,5,6,7],[0,1,2,5,6,7,8],[0,1,2,5,6,7,8,9],(ra 0 11),(ra 0 12),(ra 0 13)] [13] (by kernel_rfl) [_,_,_,_,vi l[k].key,_,_,vi ((k - 1:Nat):Int),_,_,_,_,_] H (aF (Z0 rfl (Rm rfl)) (Z1 0 28 rfl (Rc rfl)) (Z1 1 29 rfl (Rm rfl)) (Z1 2 30 rfl (YF wS (aG c0) rfl)) (aF (Z2 3 31 2 30 rfl (YO aH 0 (aG c0) rfl)) (Z1 2 30 rfl (YM (aG c0) rfl)) (Z1 2 30 rfl (YM (aG c0) rfl)) ?_ (aF (Z3 5 33 7 35 2 30 rfl (YI gy gM (aG c0) rfl rfl)) (Z2 8 36 2 30 rfl (YF wS (aG c0) rfl)) (X2 9 37 2 30 rfl fun hG=>YR aH (aG c0) rfl (aJ hG (aJ zV (hpk (by omega)).1))) (Z3 4 32 10 38 2 30 rfl (YC (aG c0) rfl)) (bR (Z2 2 30 11 39 rfl (Pt (aG c0) rfl)) (bR (bS rfl) dz))))) ?_
     ·refine dJ 6 34 2 30 rfl rfl fun _ a w G1 hG HT H fin=>?_;refine nS _ H (wg H rfl rfl (aG c0)) rfl rfl rfl (by omega) (by omega) rfl ?_;clear H;intro a H;exact fin H iJ (by show _=_;first|rfl|exact aB vi (by omega))
     clear H;intro a w G pV H hv;have H:=H.aM (hv 12 40 rfl rfl) rfl;clear hv;refine kH H (Ra rfl ?_);clear H;intro a H;refine aD ⟨rfl,?_⟩;refine dG _ _ ?_;clear dG;refine Ba H rfl (aG c1) ?_;refine bN (fun _ dZ=>?_);rw [au (by rw [(hpk (by omega)).2,c1])] at heq;refine kP H (SC (bq dZ rfl ?_));clear H dZ;intro a H;refine lr H results129 rfl ?_
     first
      | exact H.rt (aB vi (by rw [ah (by simpa using p61)] at heq;rw [iy,ah (by omega)];exact heq))
      | exact H.rt (aB vi (by rw [au (by simpa using h21)] at heq;rw [iy,ah (by omega)];exact heq))
      | exact H.rt (aB vi (by rw [iy,ah (by omega)];exact heq))
      | exact H.rt (aB vi (by rw [iy,ah (by omega),← heq,show l.drop k=[] from jC (by omega)];rfl))
      | exact H.rt (aB vi (by rw [iy,au (by omega)]))
    skip;refine dI hmx [[],[0],[0,1],[0,1,2],(ra 0 4),[0,1,2],[0,1,2],[0,1,2,6],[0,1,2,5,6,7],[0,1,2,5,6,7,8],[0,1,2,5,6,7,8,9],(ra 0 11),(ra 0 12),(ra 0 13)] [13] (by kernel_rfl) [_,_,_,_,vi l[k].key,_,_,vi ((k - 1:Nat):Int),_,_,_,_,_] H (aF (Z0 rfl (Rm rfl)) (Z1 0 28 rfl (Rc rfl)) (Z1 1 29 rfl (Rm rfl)) (Z1 2 30 rfl (YF wS (aG c0) rfl)) (aF (Z2 3 31 2 30 rfl (YO aH 0 (aG c0) rfl)) (Z1 2 30 rfl (YM (aG c0) rfl)) (Z1 2 30 rfl (YM (aG c0) rfl)) ?_ (aF (Z3 5 33 7 35 2 30 rfl (YI gy gM (aG c0) rfl rfl)) (Z2 8 36 2 30 rfl (YF wS (aG c0) rfl)) (X2 9 37 2 30 rfl fun hG=>YR aH (aG c0) rfl (aJ hG (aJ zV (hpk (by omega)).1))) (Z3 4 32 10 38 2 30 rfl (YC (aG c0) rfl)) (bR (Z2 2 30 11 39 rfl (Pt (aG c0) rfl)) (bR (bS rfl) dz))))) ?_
    ·refine dJ 6 34 2 30 rfl rfl fun _ a w G1 hG HT H fin=>?_;refine nS _ H (wg H rfl rfl (aG c0)) rfl rfl rfl (by omega) (by omega) rfl ?_;clear H;intro a H;exact fin H iJ (by show _=_;first|rfl|exact aB vi (by omega))
    clear H;intro a w G pV H hv;have H:=H.aM (hv 12 40 rfl rfl) rfl;clear hv;refine kH H (Ra rfl ?_);clear H;intro a H;refine aD ⟨rfl,?_⟩;refine dG _ _ ?_;clear dG;refine rP H rfl (aS c1) ?_;refine bN (fun _ eB=>?_)
    have q1:¬ (0 < (k:Int)∧l[k].key=pk):=by first|exact fun h=>c1 h.2|exact fun h=>c0 h.1
    rw [ah (fun h=>q1 (by
     by_cases h0:0 < k
     ·rw [(hpk h0).2] at h
      injection h with h
      exact ⟨by omega,h.symm⟩
     rw [Ow (by omega)] at h
     cases h))] at heq
    by_cases c3:l[k].key < pk
    ·skip;refine dI hmx [[],[0],[0,1],[0,1,2],(ra 0 4),[0,1,2],[0,1,2],[0,1,2,6],[0,1,2,5,6,7],[0,1,2,5,6,7,8],[0,1,2,5,6,7,8,9],(ra 0 11),(ra 0 12),(ra 0 13)] [13] (by kernel_rfl) [_,_,_,_,vi l[k].key,_,_,vi ((k - 1:Nat):Int),_,_,vi pk,_,_] H (aF (Z0 rfl (Rm rfl)) (Z1 0 42 rfl (Rc rfl)) (Z1 1 43 rfl (Rm rfl)) (Z1 2 44 rfl (YF wS (aG c0) rfl)) (aF (Z2 3 45 2 44 rfl (YO aH 0 (aG c0) rfl)) (Z1 2 44 rfl (YM (aG c0) rfl)) (Z1 2 44 rfl (YM (aG c0) rfl)) ?_ (aF (Z3 5 47 7 49 2 44 rfl (YI gy gM (aG c0) rfl rfl)) (Z2 8 50 2 44 rfl (YF wS (aG c0) rfl)) ?_ (Z3 4 46 10 52 2 44 rfl (YC (aG c0) rfl)) (bR (Z2 2 44 11 53 rfl (Pt (aG c0) rfl)) (bR (bS rfl) dz))))) ?_
     ·refine dJ 6 48 2 44 rfl rfl fun _ a w G1 hG HT H fin=>?_;refine nS _ H (wg H rfl rfl (aG c0)) rfl rfl rfl (by omega) (by omega) rfl ?_;clear H;intro a H;exact fin H iJ (by show _=_;first|rfl|exact aB vi (by omega))
     ·refine dJ 9 51 2 44 rfl rfl fun _ a w G1 hG HT H fin=>?_;refine rC aH H (wg H rfl rfl (aG c0)) rfl (H.hp.aI (aJ hG (aJ pV (aJ zV (hpk (by omega)).1)))) rfl ?_;clear H;intro a H;exact fin H iJ rfl
     clear H;intro a w G qU H hv;have H:=H.aM (hv 12 54 rfl rfl) rfl;clear hv;refine kH H (Ra rfl ?_);clear H;intro a H;refine aD ⟨rfl,?_⟩;refine eB _ _ ?_;clear eB;refine Ba H rfl (aG c3) ?_;refine bN (fun _ dW=>?_);rw [au (by rw [(hpk (by omega)).2];exact aG c3)] at heq;refine kP H (SC (bq dW rfl ?_));clear H dW;intro a H;refine lr H results129 rfl ?_
     first
      | exact H.rt (aB vi (by rw [ah (by simpa using p61)] at heq;rw [iy,ah (by omega)];exact heq))
      | exact H.rt (aB vi (by rw [au (by simpa using h21)] at heq;rw [iy,ah (by omega)];exact heq))
      | exact H.rt (aB vi (by rw [iy,ah (by omega)];exact heq))
      | exact H.rt (aB vi (by rw [iy,ah (by omega),← heq,show l.drop k=[] from jC (by omega)];rfl))
      | exact H.rt (aB vi (by rw [iy,au (by omega)]))
    skip;refine dI hmx [[],[0],[0,1],[0,1,2],(ra 0 4),[0,1,2],[0,1,2],[0,1,2,6],[0,1,2,5,6,7],[0,1,2,5,6,7,8],[0,1,2,5,6,7,8,9],(ra 0 11),(ra 0 12),(ra 0 13)] [13] (by kernel_rfl) [_,_,_,_,vi l[k].key,_,_,vi ((k - 1:Nat):Int),_,_,vi pk,_,_] H (aF (Z0 rfl (Rm rfl)) (Z1 0 42 rfl (Rc rfl)) (Z1 1 43 rfl (Rm rfl)) (Z1 2 44 rfl (YF wS (aG c0) rfl)) (aF (Z2 3 45 2 44 rfl (YO aH 0 (aG c0) rfl)) (Z1 2 44 rfl (YM (aG c0) rfl)) (Z1 2 44 rfl (YM (aG c0) rfl)) ?_ (aF (Z3 5 47 7 49 2 44 rfl (YI gy gM (aG c0) rfl rfl)) (Z2 8 50 2 44 rfl (YF wS (aG c0) rfl)) ?_ (Z3 4 46 10 52 2 44 rfl (YC (aG c0) rfl)) (bR (Z2 2 44 11 53 rfl (Pt (aG c0) rfl)) (bR (bS rfl) dz))))) ?_
    ·refine dJ 6 48 2 44 rfl rfl fun _ a w G1 hG HT H fin=>?_;refine nS _ H (wg H rfl rfl (aG c0)) rfl rfl rfl (by omega) (by omega) rfl ?_;clear H;intro a H;exact fin H iJ (by show _=_;first|rfl|exact aB vi (by omega))
    ·refine dJ 9 51 2 44 rfl rfl fun _ a w G1 hG HT H fin=>?_;refine rC aH H (wg H rfl rfl (aG c0)) rfl (H.hp.aI (aJ hG (aJ pV (aJ zV (hpk (by omega)).1)))) rfl ?_;clear H;intro a H;exact fin H iJ rfl
    clear H;intro a w G qU H hv;have H:=H.aM (hv 12 54 rfl rfl) rfl;clear hv;refine kH H (Ra rfl ?_);clear H;intro a H;refine aD ⟨rfl,?_⟩;refine eB _ _ ?_;clear eB;refine rP H rfl (aS c3) ?_;refine gU ?_;refine ⟨_,by exact (H).sub ⟨rfl,rfl,rfl,rfl,rfl,rfl,aC⟩,?_⟩
    have q2:¬ (0 < (k:Int)∧l[k].key < pk):=by first|exact fun h=>c3 h.2|exact fun h=>c0 h.1
    rw [ah (fun h=>q2 (by
     by_cases h0:0 < k
     ·rw [(hpk h0).2] at h;exact ⟨by omega,nK h⟩
     rw [Ow (by omega)] at h
     cases h))] at heq
    exact ⟨heq,fun b o h=>qU b o (pV b o (zV b o h))⟩
   skip;refine dI hmx [[],[0],[0,1],[0,1,2],(ra 0 4),[0,1,2],[0,1,2],[0,1,2,6],[0,1,2,5,6,7],[0,1,2,5,6,7,8],[0,1,2,5,6,7,8,9],(ra 0 11),(ra 0 12),(ra 0 13)] [13] (by kernel_rfl) [_,_,_,undef,undef,undef,undef,undef,undef,undef,undef,undef,_] H (aF (Z0 rfl (Rm rfl)) (Z1 0 28 rfl (Rc rfl)) (Z1 1 29 rfl (Rm rfl)) (aV 2 (aS c0) rfl rfl) (aF (aV 2 (aS c0) rfl rfl) (aV 2 (aS c0) rfl rfl) (aV 2 (aS c0) rfl rfl) (aV 2 (aS c0) rfl rfl) (aF (aV 2 (aS c0) rfl rfl) (aV 2 (aS c0) rfl rfl) (aV 2 (aS c0) rfl rfl) (aV 2 (aS c0) rfl rfl) (bR (Z2 2 30 11 39 rfl (Pf (aS c0) rfl)) (bR (bS rfl) dz))))) ?_
   clear H;intro a w G pV H hv;have H:=H.aM (hv 12 40 rfl rfl) rfl;clear hv;refine kH H (Ra rfl ?_);clear H;intro a H;refine aD ⟨rfl,?_⟩;refine dG _ _ ?_;clear dG;refine rP H rfl rfl ?_;refine bN (fun _ fC=>?_)
   have q1:¬ (0 < (k:Int)∧l[k].key=pk):=by first|exact fun h=>c1 h.2|exact fun h=>c0 h.1
   rw [ah (fun h=>q1 (by
    by_cases h0:0 < k
    ·rw [(hpk h0).2] at h
     injection h with h
     exact ⟨by omega,h.symm⟩
    rw [Ow (by omega)] at h
    cases h))] at heq
   refine dI hmx [[],[0],[0,1],[0,1,2],(ra 0 4),[0,1,2],[0,1,2],[0,1,2,6],[0,1,2,5,6,7],[0,1,2,5,6,7,8],[0,1,2,5,6,7,8,9],(ra 0 11),(ra 0 12),(ra 0 13)] [13] (by kernel_rfl) [_,_,_,undef,undef,undef,undef,undef,undef,undef,undef,undef,_] H (aF (Z0 rfl (Rm rfl)) (Z1 0 42 rfl (Rc rfl)) (Z1 1 43 rfl (Rm rfl)) (aV 2 (aS c0) rfl rfl) (aF (aV 2 (aS c0) rfl rfl) (aV 2 (aS c0) rfl rfl) (aV 2 (aS c0) rfl rfl) (aV 2 (aS c0) rfl rfl) (aF (aV 2 (aS c0) rfl rfl) (aV 2 (aS c0) rfl rfl) (aV 2 (aS c0) rfl rfl) (aV 2 (aS c0) rfl rfl) (bR (Z2 2 44 11 53 rfl (Pf (aS c0) rfl)) (bR (bS rfl) dz))))) ?_
   clear H;intro a w G qU H hv;have H:=H.aM (hv 12 54 rfl rfl) rfl;clear hv;refine kH H (Ra rfl ?_);clear H;intro a H;refine aD ⟨rfl,?_⟩;refine fC _ _ ?_;clear fC;refine rP H rfl rfl ?_;refine gU ?_;refine ⟨_,by exact (H).sub ⟨rfl,rfl,rfl,rfl,rfl,rfl,aC⟩,?_⟩
   have q2:¬ (0 < (k:Int)∧l[k].key < pk):=by first|exact fun h=>c3 h.2|exact fun h=>c0 h.1
   rw [ah (fun h=>q2 (by
    by_cases h0:0 < k
    ·rw [(hpk h0).2] at h;exact ⟨by omega,nK h⟩
    rw [Ow (by omega)] at h
    cases h))] at heq
   exact ⟨heq,fun b o h=>qU b o (pV b o (zV b o h))⟩
  clear H;intro g2 a w hI H;obtain ⟨heq,iM⟩:=hI;replace hrow:=fun j u hj=>aJ iM (hrow j u hj);dsimp only [lca,bJ] at H;refine kP H (SR fun _ gQ=>aY wS aH 0 rfl rfl (aY M8 aH 0 rfl rfl ?_));clear H;intro a H;refine s_call QO H wn rfl (Qq _ _ H.ro l[k].key l[k].value) rfl ?_;clear H;rintro v59 G59 a w rfl alu H;refine kH H (ak gQ rfl (SR fun _ fM=>Rm rfl (Rc rfl (Kz fM (Cd rfl ?_ ?_))))) <;> clear H gQ fM
  ·intro FP a H
   try have p61:=dT FP
   refine kP H (SR fun _ gV=>Rm rfl (ak gV rfl ?_));clear H gV;intro a H;refine lr H results129 rfl ?_
   first
    | exact H.rt (aB vi (by rw [ah (by simpa using p61)] at heq;rw [iy,ah (by omega)];exact heq))
    | exact H.rt (aB vi (by rw [au (by simpa using h21)] at heq;rw [iy,ah (by omega)];exact heq))
    | exact H.rt (aB vi (by rw [iy,ah (by omega)];exact heq))
    | exact H.rt (aB vi (by rw [iy,ah (by omega),← heq,show l.drop k=[] from jC (by omega)];rfl))
    | exact H.rt (aB vi (by rw [iy,au (by omega)]))
  intro FP a H
  try have p61:=dF FP
  refine kP H (Kc aR (SC (Rd rfl (Rm rfl ?_))));clear H aR;intro a H;refine aD ?_;refine dD ((k+1,G59)) (by exact (H.dY (Pl:=[_]) (dK:=[]) [] (by decide) rfl).sub ⟨rfl,rfl,rfl,rfl,rfl,aC⟩) ?_
  (try dsimp only);exact ⟨by omega,by rw [au (by simpa using p61)] at heq;exact heq,fun b o h=>alu b o (iM b o (hgm b o h))⟩
 intro eX a H
 try have nA:=dF eX
 refine dV ?_;refine K6 _ _ ?_;clear K6;refine kP H (SR fun _ jo=>ak jo rfl ?_);clear H jo;intro a H;refine lr H results129 rfl ?_
 first
  | exact H.rt (aB vi (by rw [ah (by simpa using p61)] at heq;rw [iy,ah (by omega)];exact heq))
  | exact H.rt (aB vi (by rw [au (by simpa using h21)] at heq;rw [iy,ah (by omega)];exact heq))
  | exact H.rt (aB vi (by rw [iy,ah (by omega)];exact heq))
  | exact H.rt (aB vi (by rw [iy,ah (by omega),← heq,show l.drop k=[] from jC (by omega)];rfl))
  | exact H.rt (aB vi (by rw [iy,au (by omega)]))
def zL (l:List aO) (k:Int):Int × Bool:=if pW (l.map aO.key) k=true then ((l.getD (iH (l.map aO.key) k) ⟨0,0⟩).value,true) else (0,false)
theorem U6 (G:GH) (w0:World) (hG:Hold G w0) (l:List aO) (t:Int) (v:aj) (hv:av G (.sl 2 (l.map aO.dat)) v) (hl:l.length≤4294967296) :
  Calls prog 240 #[v,vi t] w0 (aZ w0 G fun u G'=>u=.tuple #[vi (iH (l.map aO.key) t),.bool (pW (l.map aO.key) t)]):=by
 obtain ⟨A,c,rfl,hc1,hc2,-⟩:=hv.slice;rw [bG] at *;refine eN [(0,_),(1,_)] func240 rfl ntmps240 rfl rfl hG ?_;intro a H;refine kP H (SR fun _ K1=>Ra rfl (ak K1 rfl (SR fun _ K2=>Rm rfl (Rm rfl ?_))));clear H K1;intro a H;refine s_call ahT H wn rfl (aeh _ _ H.ro l t _ hv hl) rfl ?_;clear H;rintro v8 G8 a w rfl vV H;(iterate 2 refine lq H wn rfl rfl rfl ?_;clear H;intro a H);refine kH H (Ra rfl (ak K2 rfl ?_));clear H K2;intro a H;refine bW ?_;refine (eY H results240 (.cons (aT H rfl) (.cons (aT H rfl) .nil)) ?_).1;exact H.rt rfl
theorem ajI (G:GH) (w0:World) (hG:Hold G w0) (l:List aO) (t:Int) (v:aj) (hv:av G (.sl 2 (l.map aO.dat)) v) (hl:l.length≤4294967296) :
  Calls prog 213 #[v,vi t] w0 (aZ w0 G fun u G'=>u=.tuple #[vi (zL l t).1,.bool (zL l t).2]):=by
 obtain ⟨A,c,rfl,hc1,hc2,-⟩:=hv.slice;rw [bG] at *;refine eN [(0,_),(1,_)] func213 rfl ntmps213 rfl rfl hG ?_;intro a H;refine kP H (SR fun _ K1=>Ra rfl (ak K1 rfl (SR fun _ K2=>Rm rfl (Rm rfl ?_))));clear H K1;intro a H;refine s_call QU H wn rfl (U6 _ _ H.ro l t _ hv hl) rfl ?_;clear H;rintro v11 sw a w rfl Br H;obtain ⟨n,hn⟩:∃ n,n=iH (l.map aO.key) t:=⟨_,rfl⟩;obtain ⟨q,hq⟩:∃ q,q=pW (l.map aO.key) t:=⟨_,rfl⟩;rw [← hn,← hq] at H;refine kH H (Rm rfl ?_);clear H;intro a H;(iterate 2 refine lq H wn rfl rfl rfl ?_;clear H;intro a H);refine kH H (Ra rfl (ak K2 rfl (SQ fun _ K3=>SR fun _ K4=>Rm rfl (Rn rfl (Kz K4 (Cd rfl ?_ ?_)))))) <;> clear H K2 K4
 ·intro iY a H
  refine kP H (SR fun _ K5=>Ra rfl (ak K5 rfl ?_));clear H K5;intro a H;refine bW ?_;refine (eY H results213 (.cons (aT H rfl) (.cons (aT H rfl) .nil)) ?_).1;exact H.rt (by rw [zL,ah (by rw [← hq];simpa using iY)])
 intro iY a H
 try have qd:=dF iY
 have hlt:n < l.length:=by have:=Kt (ks:=l.map aO.key) (t:=t) (by rw [← hq];simpa using iY);rw [← hn] at this;simpa using this
 obtain ⟨b,o,rfl,hrow⟩:=GL (hv.mono Br) hlt;have r1:aI sw b (o+n*2+1)=some (vi l[n].value):=hrow 1 _ rfl;refine kP H (Kc K3 (SR fun _ K6=>Rm rfl (Rm rfl (Ri gy gM rfl rfl (Rf M8 rfl (Rg aH rfl (by assumption) ?_))))));clear H K3;intro a H;refine kH H (Ra rfl (ak K6 rfl ?_));clear H K6;intro a H;refine bW ?_;refine (eY H results213 (.cons (aT H rfl) (.cons (aT H rfl) .nil)) ?_).1;exact H.rt (by rw [zL,au (by rw [← hq];simpa using iY),← hn,List.getD_eq_getElem?_getD,eT hlt];rfl)
theorem QJ:∀ args w,(callFunc 159 args).run prog w=.ok (.enter 159 args) w:=enters func159 rfl (by kernel_rfl)
theorem ahH:∀ args w,(callFunc 241 args).run prog w=.ok (.enter 241 args) w:=enters func241 rfl (by kernel_rfl)
theorem aqU:pK prog 187 [(0,1),(1,1)] [.int .i64 0,.int .i64 0]:=⟨by kernel_rfl,by kernel_rfl⟩
theorem ahI:∀ args w,(callFunc 242 args).run prog w=.ok (.enter 242 args) w:=enters func242 rfl (by kernel_rfl)
theorem aqg {cur x ys A:List aj} {p q:Nat} (hA:cur.take p=A) (hp:p≤cur.length) (hx:x.length=q) (hl:p+q+ys.length≤cur.length):(seg (seg cur p x) (p+q) ys).take (p+q+ys.length)=A++x++ys∧(seg (seg cur p x) (p+q) ys).length=cur.length:=by
 have h1:(seg cur p x).length=cur.length:=EM (by omega);refine ⟨?_,by rw [EM (by rw [h1];omega),h1]⟩
 have h2:(seg cur p x).take (p+q)=A++x:=by
  rw [seg,hA,List.take_append_of_le_length (by rw [← hA];simp;omega),iC (by rw [← hA];simp;omega)]
 rw [seg,h2,List.take_append_of_le_length (by rw [← hA];simp;omega),iC (by rw [← hA];simp;omega)]
theorem aqh {cur x ys A:List aj} {p q:Nat} (hA:cur.take p=A) (hp:p≤cur.length) (hx:x.length=q) (hl:p+q+ys.length≤cur.length):(seg (seg cur (p+q) ys) p x).take (p+q+ys.length)=A++x++ys∧(seg (seg cur (p+q) ys) p x).length=cur.length:=by
 have h1:(seg cur (p+q) ys).length=cur.length:=EM (by omega);refine ⟨?_,by rw [EM (by rw [h1];omega),h1]⟩
 have h2:(seg cur (p+q) ys).take p=A:=by
  rw [seg,iW,List.take_append_of_le_length (by simp;omega),List.take_take,Nat.min_eq_left (by omega),hA]
 have h3:(seg cur (p+q) ys).drop (p+q)=ys++cur.drop (p+q+ys.length):=by
  rw [seg,iW,List.drop_append_of_le_length (by simp;omega),jC (by simp;omega),mZ]
 rw [seg,hx,h2,h3,← iW,List.take_append_of_le_length (by rw [← hA];simp;omega),iC (by rw [← hA];simp;omega)]
theorem aqf {cur ys A:List aj} {p:Nat} (hA:cur.take p=A) (hl:p+ys.length≤cur.length):(seg cur p ys).take (p+ys.length)=A++ys:=by
 rw [seg,hA,List.take_append_of_le_length (by rw [← hA];simp;omega),iC (by rw [← hA];simp;omega)]
theorem OV {b o lo n c sz o' n' c':Nat} (h:¬ c=lo) (ho:o+lo*sz=o') (hn:n - lo=n') (hc:c - lo=c'):Value.slice (if c=lo then some ⟨b,o,none⟩ else (some ⟨b,o,none⟩:Option Addr).map (·.add (lo*sz))) (n - lo) (c - lo)=.slice (some ⟨b,o',none⟩) n' c':=by
 subst ho hn hc;rw [ah h,rO,add_lit]
set_option maxHeartbeats 4000000 in
theorem amG (G:GH) (w0:World) (Lo:OL) (hO:gD G Lo w0) (v:aj) (n i:Nat) (xs:List aj) (hrw:bZ 187 2 v n xs Lo) (hx1:xs.all Value.oneCell'=true) (hi:i≤n) (hn:n≤4294967296) (bv:Nat) (x0 x1:aj) (hb:G bv=some (.cells #[x0,x1] 187 (0,0))) (h0:x0.oneCell'=true) (h1:x1.oneCell'=true) :
  Calls prog 241 #[v,vi i,.slice (some ⟨bv,0,none⟩) 1 1] w0 (fV w0 G Lo fun u G' L'=>bZ 187 2 u (n+1) (xs.take (i*2)++[x0,x1]++xs.drop (i*2)) L'):=by
 have hml:maxLen=9223372036854775807:=rfl;obtain ⟨A,c,rfl,hc1,hc2⟩:=hrw.shape;have hxl:=hrw.1
 have hx2:[x0,x1].all Value.oneCell'=true:=by simp [h0,h1]
 have hgx:∀ {w:World} {G':GH},Hold G' w→(∀ b o,G b=some o→G' b=some o)→∀ j u,[x0,x1][j]?=some u→w.cell? ⟨bv,0+j,none⟩=some u:=fun {w} {G'} hG hm j u hj=>by
  simp [World.cell?,hG _ _ (hm _ _ hb),← hj]
 refine iX (N:=95) (T:=[(0,_),(1,_),(2,_)]) func241 rfl ntmps241 rfl rfl hO ?_;intro a H;refine kP H (SR fun _ K1=>ak K1 rfl (SR fun _ K2=>Rm rfl (Rm rfl ?_)));clear H K1;intro a H;refine zm gy gM i H wn rfl rfl rfl hi rfl ?_;clear H;intro a H;refine K2 _ _ ?_;clear K2;refine kP H (SR fun _ K3=>Rm rfl (Rl gy rfl (ak K3 rfl (SQ fun _ K4=>SR fun _ K5=>Rm rfl (Rc rfl (Kz K5 (Cd rfl ?_ ?_))))))) <;> clear H K3 K5
 ·intro h16 a H
  try have p16:=dT h16
  exact absurd p16 (by decide)
 intro h16 a H
 try have p16:=dF h16
 refine kP H (Kc K4 (SR fun _ K6=>Rm rfl (Rl gy rfl (ak K6 rfl (SQ fun _ K7=>SR fun _ K8=>Rm rfl (Rm rfl (Rc rfl (Kz K8 (Cd rfl ?_ ?_))))))))) <;> clear H K4 K6 K8
 ·intro h22 a H
  try have iZ:=dT h22
  refine kP H (SR fun _ K9=>Rm rfl (Rm rfl ?_));clear H;intro a H;refine nE (Li:=[]) (Lo:=Lo) (news:=[x0,x1]) gy gM rfl rfl H wn rfl rfl hrw rfl (hgx H.ro fun _ _ h=>h) hx2 (by omega) (by omega) rfl ?_;clear H;intro v25 asF a w alU H;dsimp only [List.nil_append] at H;refine kH H (ak K9 rfl ?_);clear H K9;intro a H;refine lr H results241 rfl ?_
  exact H.hp.dx (by
   have e:i=n:=by omega
   have e1:xs.take (i*2)=xs:=iC (by omega);have e2:xs.drop (i*2)=[]:=jC (by omega)
   rw [e1,e2,jf];exact alU)
 intro h22 a H
 try have iZ:=dF h22
 have hlt:i < n:=by omega
 obtain ⟨b,cap,cur,he,rfl,-,-,hcs,hct⟩:=hrw.2.resolve_left (fun h=>by omega)
 injection he with e1 e2 e3
 subst e1 e3;obtain ⟨cur,rfl⟩:∃ l:List aj,cur=l.toArray:=⟨cur.toList,by simp⟩
 simp only [List.size_toArray,List.toList_toArray] at hcs hct
 have Ny:cur.take (i*2)=xs.take (i*2):=by rw [← hct,List.take_take,Nat.min_eq_left (by omega)]
 have hcd:∀ j u,(xs.drop (i*2))[j]?=some u→cur[i*2+j]?=some u:=fun j u hj=>by
  rw [List.getElem?_drop,← hct,sU] at hj
  split at hj
  ·exact hj
  cases hj
 have akO:∀ j u,(xs.take (i*2))[j]?=some u→cur[j]?=some u:=fun j u hj=>by
  rw [← Ny,sU] at hj
  split at hj
  ·exact hj
  cases hj
 have hyl:(xs.drop (i*2)).length=(n - i)*2:=by rw [List.length_drop,hxl];omega
 have hy1:(xs.drop (i*2)).all Value.oneCell'=true:=kJ.2 fun u hu=>kJ.1 hx1 u (List.mem_of_mem_drop hu)
 have hbne:bv≠b:=fun e=>by have:=hO.sep (b,_) (List.mem_singleton_self _);rw [← e,hb] at this;cases this
 refine kP H (Kc K7 (SQ fun _ aR=>SR fun _ bQ=>Rm rfl (Rm rfl (Rd rfl (Rm rfl ?_)))));clear H K7;intro a H;refine apE gy H wn rfl rfl ?_;clear H;intro a H;refine kH H (Rc rfl (Kz bQ (Cd rfl ?_ ?_))) <;> clear H bQ
 ·intro h31 a H
  try have p31:=dT h31
  refine kP H (SR fun _ bY=>Rm rfl (Rm rfl ?_));clear H;intro a H;refine EL gy gM i H wn rfl rfl rfl (by omega) rfl ?_;clear H;intro a H;refine kH H (Rm rfl (Rm rfl (Rd rfl (Rm rfl (Rs rfl ?_)))));clear H;intro a H;refine apA (m:=n+1 - i) gy lu gM rfl rfl (xs.take (i*2)) H wn rfl rfl (by omega) (by rw [List.length_take,hxl];omega) (fun j u hj=>H.hp.oW 0 rfl (by rw [gI];simpa using akO j u hj)) (by omega) (by omega) (by omega) (by omega) rfl ?_;clear H;intro b2 cap2 Ea a w hq1 hq2 hq3 hq4 H;rw [show i+(n+1 - i)=n+1 by omega] at hq1 H;refine kH H (ak bY rfl (SR fun _ cZ=>Rm rfl (Rm rfl ?_)));clear H bY;intro a H;refine zm gy gM i H wn rfl rfl rfl (by omega) rfl ?_;clear H;intro a H;rw [ah (by omega),rO,add_lit,gI] at H;refine kH H (Rm rfl ?_);clear H;intro a H;refine OM gy gM 0 1 [x0,x1] H wn rfl rfl rfl (by omega) rfl (hgx H.ro fun _ _ h=>h) (by simp;omega) hx2 rfl ?_;clear H;intro a w H;dsimp only [List.set] at H;obtain ⟨amf,amg⟩:=aqg (x:=[x0,x1]) (ys:=xs.drop (i*2)) (q:=2) hq4 (by omega) rfl (by rw [hyl];omega);refine cZ _ _ ?_;clear cZ;refine bN (fun _ dG=>?_);refine dI hmx [[],[],[],[1,2],(ra 0 4),[],[],[5,6],(ra 0 8)] [8] (by kernel_rfl) [_,_,_,_,.slice (some ⟨b2,i*2+2,none⟩) (n - i) (cap2 - (i+1)),_,_,.slice (some ⟨b,i*2,none⟩) (n - i) (c - i)] H (aF (Z0 rfl (Rm rfl)) (Z0 rfl (Rm rfl)) (Z0 rfl (Rm rfl)) (Z2 1 47 2 48 rfl (Rd rfl)) (aF ?_ (Z0 rfl (Rm rfl)) (Z0 rfl (Rm rfl)) ?_ (bR (bS rfl) dz))) ?_
  ·refine dJ 0 46 3 49 rfl rfl fun _ a w G1 hG HT H fin=>?_;refine zm gy gM (i+1) H wn rfl rfl (by omega) (by omega) rfl ?_;clear H;intro a H;exact fin H iJ (OV (by omega) (by omega) (by omega) rfl)
  ·refine dJ 5 51 6 52 rfl rfl fun _ a w G1 hG HT H fin=>?_;refine zm gy gM i H wn rfl rfl rfl (by omega) rfl ?_;clear H;intro a H;exact fin H iJ (OV (by omega) (by omega) (by omega) rfl)
  clear H;intro a w G lQ H hv;have H:=H.aM (hv 4 50 rfl rfl) rfl;have H:=H.aM (hv 7 53 rfl rfl) rfl;clear hv;refine OM gy gM 0 (n - i) (xs.drop (i*2)) H wn rfl rfl rfl (by omega) hyl (fun j u hj=>H.hp.oW 1 rfl (by simpa using hcd j u hj)) (by rw [EM (by simp;omega),hyl];omega) hy1 rfl ?_;clear H;intro a w H;dsimp only [List.set] at H;refine aD ⟨rfl,?_⟩;refine dG _ _ ?_;clear dG;exact kP H (SR fun _ dZ=>Rm rfl (ak dZ rfl (LR results241 rfl fun H=>H.hp.iq (L':=[_]) (List.Sublist.cons_cons _ (List.nil_sublist _)) ⟨by simp [List.length_take,hxl,hyl];omega,.inr ⟨b2,cap2,_,rfl,rfl,hq1,hq2,by rw [List.size_toArray,amg,hq3],by rw [List.toList_toArray];rw [← amf];congr 1;rw [hyl];omega⟩⟩)))
 intro h31 a H
 try have p31:=dF h31
 refine kP H (Kc aR (SR fun _ eB=>Rm rfl (Rm rfl (Rm rfl (Rd rfl ?_)))));clear H aR;intro a H;refine EL gy gM (n+1) H wn rfl rfl (by omega) (by omega) rfl ?_;clear H;intro a H;refine kH H (ak eB rfl (SQ fun _ dW=>SR fun _ fC=>Rm rfl (Rm rfl (Rm rfl (Rm rfl (Rd rfl ?_))))));clear H eB;intro a H;refine zm gy gM (i+1) H wn rfl rfl (by omega) (by omega) rfl ?_;clear H;intro a H;rw [ah (by omega),rO,add_lit,gI] at H;refine apO (t:=23) (tr:=4) func262 (by kernel_rfl) (by kernel_rfl) (by kernel_rfl) (by kernel_rfl) gy gM H wn rfl rfl (H.ro _ _ hb) (H.hp.own (b,_) (List.mem_singleton_self _)) hbne (by rw [List.size_toArray,hcs];omega) rfl ?_;clear H;intro a H;refine kH H (Rn rfl (Kz fC (Cd rfl ?_ ?_))) <;> clear H fC
 ·intro h68 a H
  try have p68:=dT h68
  refine bN (fun _ gQ=>?_);refine dI hmx [[],[],[],[1,2],(ra 0 4),[],[],[5,6],(ra 0 8)] [8] (by kernel_rfl) [_,_,_,_,.slice (some ⟨b,i*2+2,none⟩) (n - i) (c - (i+1)),_,_,.slice (some ⟨b,i*2,none⟩) (n+1 - i) (c - i)] H (aF (Z0 rfl (Rm rfl)) (Z0 rfl (Rm rfl)) (Z0 rfl (Rm rfl)) (Z2 1 70 2 71 rfl (Rd rfl)) (aF ?_ (Z0 rfl (Rm rfl)) (Z0 rfl (Rm rfl)) ?_ (bR (bS rfl) dz))) ?_
  ·refine dJ 0 69 3 72 rfl rfl fun _ a w G1 hG HT H fin=>?_;refine zm gy gM (i+1) H wn rfl rfl (by omega) (by omega) rfl ?_;clear H;intro a H;exact fin H iJ (OV (by omega) (by omega) (by omega) rfl)
  ·refine dJ 5 74 6 75 rfl rfl fun _ a w G1 hG HT H fin=>?_;refine zm gy gM i H wn rfl rfl rfl (by omega) rfl ?_;clear H;intro a H;exact fin H iJ (OV (by omega) (by omega) (by omega) rfl)
  clear H;intro a w G CF H hv;have H:=H.aM (hv 4 73 rfl rfl) rfl;have H:=H.aM (hv 7 76 rfl rfl) rfl;clear hv;refine OM gy gM 0 (n - i) (xs.drop (i*2)) H wn rfl rfl rfl (by omega) hyl (fun j u hj=>H.hp.oW 0 rfl (by simpa using hcd j u hj)) (by rw [hyl];omega) hy1 rfl ?_;clear H;intro a w H;dsimp only [List.set] at H;obtain ⟨amh,ami⟩:=aqh (x:=[x0,x1]) (ys:=xs.drop (i*2)) (q:=2) Ny (by omega) rfl (by rw [hyl];omega);refine aD ⟨rfl,?_⟩;refine gQ _ _ ?_;clear gQ;refine kP H (SR fun _ fM=>Rm rfl (Rm rfl ?_));clear H;intro a H;refine zm gy gM i H wn rfl rfl rfl (by omega) rfl ?_;clear H;intro a H;rw [ah (by omega),rO,add_lit,gI] at H;refine kH H (Rm rfl ?_);clear H;intro a H;refine OM gy gM 0 1 [x0,x1] H wn rfl rfl rfl (by omega) rfl (hgx H.ro CF) (by rw [EM (by rw [hyl];omega)];simp;omega) hx2 rfl ?_;clear H;intro a w H;dsimp only [List.set] at H;refine fM _ _ ?_;clear fM;exact kP H (SR fun _ gV=>Rm rfl (ak gV rfl (LR results241 rfl fun H=>H.hp.dx ⟨by simp [List.length_take,hxl,hyl];omega,.inr ⟨b,c,_,rfl,rfl,by omega,hc2,by rw [List.size_toArray,ami,hcs],by rw [List.toList_toArray];rw [← amh];congr 1;rw [hyl];omega⟩⟩)))
 intro h68 a H
 exact absurd (show true=false from h68) (by decide)
set_option maxHeartbeats 4000000 in
theorem afL (G:GH) (w0:World) (Lo:OL) (hO:gD G Lo w0) (v:aj) (n i:Nat) (xs:List aj) (hrw:bZ 187 2 v n xs Lo) (hx1:xs.all Value.oneCell'=true) (hi:i < n) (hn:n≤4294967296) :
  Calls prog 242 #[v,vi i,vi ((i:Int)+1)] w0 (fV w0 G Lo fun u G' L'=>bZ 187 2 u (n - 1) (xs.take (i*2)++xs.drop ((i+1)*2)) L'):=by
 have hml:maxLen=9223372036854775807:=rfl;have hxl:=hrw.1;obtain ⟨b,c,cur,rfl,rfl,hc1,hc2,hcs,hct⟩:=hrw.2.resolve_left (fun h=>by omega);obtain ⟨cur,rfl⟩:∃ l:List aj,cur=l.toArray:=⟨cur.toList,by simp⟩
 simp only [List.size_toArray,List.toList_toArray] at hcs hct
 have Ny:cur.take (i*2)=xs.take (i*2):=by rw [← hct,List.take_take,Nat.min_eq_left (by omega)]
 have hcd:∀ j u,(xs.drop ((i+1)*2))[j]?=some u→cur[(i+1)*2+j]?=some u:=fun j u hj=>by
  rw [List.getElem?_drop,← hct,sU] at hj
  split at hj
  ·exact hj
  cases hj
 have hyl:(xs.drop ((i+1)*2)).length=(n - (i+1))*2:=by rw [List.length_drop,hxl];omega
 have hy1:(xs.drop ((i+1)*2)).all Value.oneCell'=true:=kJ.2 fun u hu=>kJ.1 hx1 u (List.mem_of_mem_drop hu)
 obtain ⟨o2,ho2,ho3⟩:∃ o2,(if c=i+1 then some ⟨b,0,none⟩ else (some ⟨b,0,none⟩:Option Addr).map (·.add ((i+1)*2)))=some ⟨b,o2,none⟩∧(i+1 < n→o2=(i+1)*2):=by
  by_cases h:c=i+1
  ·rw [au h];exact ⟨0,rfl,fun h=>by omega⟩
  rw [ah h,rO,add_lit,gI];exact ⟨_,rfl,fun _=>rfl⟩
 have hsd:=aqf (ys:=xs.drop ((i+1)*2)) Ny (by rw [hyl];omega);rw [hyl,show i*2+(n - (i+1))*2=(n - 1)*2 by omega] at hsd;refine iX (N:=33) (T:=[(0,_),(1,_),(2,_)]) func242 rfl ntmps242 rfl rfl hO ?_;intro a H;refine kP H (SR fun _ K1=>ak K1 rfl (SR fun _ K2=>Rm rfl (Rm rfl (Rm rfl (Rm rfl (Rl gy rfl ?_))))));clear H K1;intro a H;refine apR gy gM i (i+1) n H wn rfl rfl rfl rfl rfl (by omega) rfl (by omega) (by omega) hc1 rfl ?_;clear H;intro v13 a H;refine K2 _ _ ?_;clear K2;refine kP H (SQ fun _ K3=>SR fun _ K4=>Rm rfl (Rm rfl (Rc rfl (Kz K4 (Cd rfl ?_ ?_))))) <;> clear H K4
 ·intro h16 a H
  try have p16:=dT h16
  exfalso;omega
 intro h16 a H
 try have p16:=dF h16
 refine kP H (Kc K3 (SR fun _ K5=>Rm rfl (Rl gy rfl (ak K5 rfl (SQ fun _ K6=>?_)))));clear H K3 K5;intro a H;refine dI hmx [[],[],[0,1],[],[],[3,4],(ra 0 6),(ra 0 7)] [6,7] (by kernel_rfl) [_,_,.slice (some ⟨b,0,none⟩) i c,_,_,.slice (some ⟨b,o2,none⟩) (n - (i+1)) (c - (i+1))] H (aF (Z0 rfl (Rm rfl)) (Z0 rfl (Rm rfl)) ?_ (Z0 rfl (Rm rfl)) (aF (Z0 rfl (Rm rfl)) ?_ (bS rfl) (bS rfl) dz)) ?_
 ·refine dJ 0 20 1 21 rfl rfl fun _ a w G1 hG HT H fin=>?_;refine EL gy gM i H wn rfl rfl rfl (by omega) rfl ?_;clear H;intro a H;exact fin H iJ rfl
 ·refine dJ 3 23 4 24 rfl rfl fun _ a w G1 hG HT H fin=>?_;refine zm gy gM (i+1) H wn rfl rfl (by omega) (by omega) rfl ?_;clear H;intro a H;exact fin H iJ (aB (fun A=>Value.slice A (n - (i+1)) (c - (i+1))) ho2)
 clear H;intro a w G mK H hv;have H:=H.aM (hv 2 22 rfl rfl) rfl;have H:=H.aM (hv 5 25 rfl rfl) rfl;clear hv
 refine apz gy gM 0 (xs.drop ((i+1)*2)) H wn rfl rfl rfl hyl (fun j u hj=>H.hp.oW 0 rfl (by
  have hj2:=(jB.1 hj).1;rw [hyl] at hj2
  rw [ho3 (by omega)];simpa using hcd j u hj)) hy1 (by omega) (by rw [hyl];omega) rfl ?_;clear H;intro a w H
 dsimp only [List.set] at H;rw [show i+(n - (i+1))=n - 1 by omega] at H;refine kH H (Ra rfl ?_);clear H;intro a H;refine aD ⟨rfl,?_⟩;refine K6 _ _ ?_;clear K6;refine kP H (SR fun _ K7=>Rm rfl (Rm rfl (Rl gy rfl (Rm rfl ?_))));clear H;intro a H;refine U3 gy gM (n - 1) n H wn rfl rfl rfl rfl rfl (by omega) (by omega) rfl ?_;clear H;intro a H;rw [ah (by omega),rO,add_lit,gI,show n - (n - 1)=1 by omega] at H;refine abQ gy gM rfl rfl 0 H wn rfl rfl (by omega) (by rw [EM (by rw [hyl];omega)];omega) ?_;clear H;intro c2 w hq1 hq2 H;dsimp only [List.set] at H;refine K7 _ _ ?_;clear K7;exact kP H (SR fun _ K8=>Rm rfl (ak K8 rfl (LR results242 rfl fun H=>H.hp.dx ⟨by simp [List.length_take,hxl];omega,.inr ⟨b,c,_,rfl,rfl,by omega,hc2,by rw [List.size_toArray,hq1,EM (by rw [hyl];omega),hcs],by rw [List.toList_toArray,hq2,hsd]⟩⟩)))
def EN (l:List aO) (k v:Int):List aO:=if pW (l.map aO.key) k=true then l.set (iH (l.map aO.key) k) ⟨(l.getD (iH (l.map aO.key) k) ⟨0,0⟩).key,v⟩ else l.take (iH (l.map aO.key) k)++⟨k,v⟩ :: l.drop (iH (l.map aO.key) k)
def D9 (l:List aO) (k:Int):List aO:=if pW (l.map aO.key) k=true then l.take (iH (l.map aO.key) k)++l.drop (iH (l.map aO.key) k+1) else l
theorem MR (l:List aO) (i:Nat) (h:i≤l.length):(lF l).take (i*2)=lF (l.take i)∧(lF l).drop (i*2)=lF (l.drop i):=by
 have e:lF l=lF (l.take i)++lF (l.drop i):=by rw [← JQ,List.take_append_drop]
 have hl:(lF (l.take i)).length=i*2:=by rw [QC,List.length_take,Nat.min_eq_left h]
 rw [e];exact ⟨by rw [List.take_append_of_le_length (by omega),iC (by omega)],by rw [List.drop_append_of_le_length (by omega),jC (by omega),mZ]⟩
theorem XB (l:List aO):(lF l).all Value.oneCell'=true:=by
 rw [kJ];intro u hu;obtain ⟨cs,hcs,hu⟩:=List.mem_flatten.1 hu;obtain ⟨p,-,rfl⟩:=List.mem_map.1 hcs
 simp only [aO.cells,jS,List.mem_nil_iff,or_false] at hu
 rcases hu with rfl|rfl <;> rfl
theorem afI (l:List aO) (i:Nat) (h:i < l.length) (v:Int):(lF l).set (i*2+1) (vi v)=lF (l.set i ⟨l[i].key,v⟩):=by
 have e:lF l=lF (l.take i)++([vi l[i].key,vi l[i].value]++lF (l.drop (i+1))):=by
  conv=>lhs;rw [← List.take_append_drop i l,ng h,JQ]
  rfl
 have hl:(lF (l.take i)).length=i*2:=by rw [QC,List.length_take,Nat.min_eq_left (by omega)]
 rw [e,List.set_append_right _ _ (by omega),hl,show i*2+1 - i*2=1 by omega,show ([vi l[i].key,vi l[i].value]++lF (l.drop (i+1))).set 1 (vi v)=[vi l[i].key,vi v]++lF (l.drop (i+1)) from rfl,List.set_eq_take_append_cons_drop (l:=l),au h,JQ]
 rfl
set_option maxHeartbeats 1000000 in
theorem aqm (G:GH) (w0:World) (hG:Hold G w0) (l:List aO) (k x:Int) (v:aj) (hv:av G (.sl 2 (l.map aO.dat)) v) (hl:l.length≤4294967295) :
  Calls prog 214 #[v,vi k,vi x] w0 (aZ w0 G fun u G'=>av G' (.sl 2 ((EN l k x).map aO.dat)) u):=by
 obtain ⟨A,c,rfl,hc1,hc2,-⟩:=hv.slice;rw [bG] at *;refine eN [(0,_),(1,_),(2,_)] func214 rfl ntmps214 rfl rfl hG ?_;intro a H;refine kP H (SR fun _ K1=>ak K1 rfl (SR fun _ K2=>Rm rfl (Rm rfl ?_)));clear H K1;intro a H;refine s_call QU H wn rfl (U6 _ _ H.ro l k _ hv (by omega)) rfl ?_;clear H;rintro v13 EX a w rfl FZ H;obtain ⟨n,hn⟩:∃ n,n=iH (l.map aO.key) k:=⟨_,rfl⟩;obtain ⟨q,hq⟩:∃ q,q=pW (l.map aO.key) k:=⟨_,rfl⟩;rw [← hn,← hq] at H;refine kH H (Rm rfl ?_);clear H;intro a H;(iterate 2 refine lq H wn rfl rfl rfl ?_;clear H;intro a H);refine kH H (Ra rfl (ak K2 rfl (SR fun _ K3=>Rm rfl ?_)));clear H K2;intro a H;refine gH QJ (Li:=[]) (L:=[]) H wn rfl (abo (Hp.owns (Li:=[]) H.hp) l _ (hv.mono FZ) (by omega)) rfl ?_;clear H;rintro v17 vg PV a w NS nN H;dsimp only [List.nil_append] at H;obtain ⟨Px,c17,rfl,-,-⟩:=NS.shape;refine kH H (ak K3 rfl (SQ fun _ K4=>SR fun _ K5=>Rm rfl (Kz K5 (Cd rfl ?_ ?_)))) <;> clear H K3 K5
 ·intro h18 a H
  try have Dl:=dT h18
  refine bN (fun _ K6=>?_)
  have hlt:n < l.length:=by
   have:=Kt (ks:=l.map aO.key) (t:=k) (by rw [← hq];assumption);rw [← hn] at this;simpa using this
  obtain ⟨bb,rfl⟩:=NS.ptr (by omega);obtain ⟨cur,-,rfl,hcur,hset⟩:=NS.set1;refine kP H (SC (Rm rfl (Rm rfl (Rm rfl ?_))));clear H;intro a H;refine yH gy gM n H wn rfl rfl rfl (by omega) rfl ?_;clear H;intro a H;refine kH H (Rf M8 rfl ?_);clear H;intro a H;refine bD aH 0 (c:=cur) (vs:=[vi x]) (cur.set (n*2+1) (vi x)) H wn rfl rfl rfl rfl rfl rfl (by simp;omega) (by rw [gI];rfl) ?_;clear H;intro w H;dsimp only [List.set] at H;have hrwn:=hset (n*2+1) (vi x);rw [afI l n hlt] at hrwn;obtain ⟨G',hm',hrep,H⟩:=St.nW (Li:=[]) H hrwn (rows:=(l.set n ⟨l[n].key,x⟩).map aO.dat) (by simp) (Oz _ _);exact kH H (Kn K6 (SR fun _ K7=>Rm rfl (ak K7 rfl (LR results214 rfl fun H=>H.rt (by rw [EN,au (by rw [← hq];assumption),← hn,List.getD_eq_getElem?_getD,eT hlt];exact hrep)))))
 intro h18 a H
 try have Dl:=dF h18
 refine kP H (Kc K4 (SR fun _ K8=>Rm rfl (Rm rfl (Rm rfl (Rm rfl ?_)))));clear H K4;intro a H;refine jm aqU [_,_] H wn rfl rfl rfl rfl ?_;clear H;intro a H;refine iE gy gM [_,_] [_,_] H wn rfl rfl rfl rfl rfl (by intro i q h;match i,h with|0,h=>exact h|n+1,h=>simp at h) rfl rfl ?_;clear H;intro WW a w akv H;obtain ⟨Gb,hmb,akw,H⟩:=H.eH;refine gH ahH (Li:=[]) (L:=PV) H wn rfl (amG _ _ PV (Hp.owns (Li:=[]) H.hp) _ l.length n (lF l) NS (XB l) (by rw [hn];exact Nat.le_trans (Fx _ _) (by simp)) (by omega) WW (vi k) (vi x) akw rfl rfl) rfl ?_;clear H;rintro v31 G31 L31 a w NT atr H;rw [(MR l n (by rw [hn];exact Nat.le_trans (Fx _ _) (by simp))).1,(MR l n (by rw [hn];exact Nat.le_trans (Fx _ _) (by simp))).2] at NT
 obtain ⟨G',hm',hrep,H⟩:=St.nW (Li:=[]) H NT (rows:=(l.take n++⟨k,x⟩ :: l.drop n).map aO.dat) (by simp;have:=Fx (l.map aO.key) k;rw [← hn] at this;simp at this;omega) (by
  have h:bT G31 2 ((l.take n++⟨k,x⟩ :: l.drop n).map aO.dat) (lF (l.take n++⟨k,x⟩ :: l.drop n)):=Oz _ _;rw [JQ] at h
  simpa [lF,aO.cells] using h)
 exact kH H (ak K8 rfl (LR results214 rfl fun H=>H.rt (by rw [EN,ah (by rw [← hq];simp_all),← hn];exact hrep)))
set_option maxHeartbeats 1000000 in
theorem aeZ (G:GH) (w0:World) (hG:Hold G w0) (l:List aO) (k:Int) (v:aj) (hv:av G (.sl 2 (l.map aO.dat)) v) (hl:l.length≤4294967295) :
  Calls prog 215 #[v,vi k] w0 (aZ w0 G fun u G'=>av G' (.sl 2 ((D9 l k).map aO.dat)) u):=by
 obtain ⟨A,c,rfl,hc1,hc2,-⟩:=hv.slice;rw [bG] at *;refine eN [(0,_),(1,_)] func215 rfl ntmps215 rfl rfl hG ?_;intro a H;refine kP H (SR fun _ K1=>ak K1 rfl (SR fun _ K2=>Rm rfl (Rm rfl ?_)));clear H K1;intro a H;refine s_call QU H wn rfl (U6 _ _ H.ro l k _ hv (by omega)) rfl ?_;clear H;rintro v11 sw a w rfl Br H;obtain ⟨n,hn⟩:∃ n,n=iH (l.map aO.key) k:=⟨_,rfl⟩;obtain ⟨q,hq⟩:∃ q,q=pW (l.map aO.key) k:=⟨_,rfl⟩;rw [← hn,← hq] at H;refine kH H (Rm rfl ?_);clear H;intro a H;(iterate 2 refine lq H wn rfl rfl rfl ?_;clear H;intro a H);refine kH H (Ra rfl (ak K2 rfl (SR fun _ K3=>Rm rfl ?_)));clear H K2;intro a H;refine gH QJ (Li:=[]) (L:=[]) H wn rfl (abo (Hp.owns (Li:=[]) H.hp) l _ (hv.mono Br) (by omega)) rfl ?_;clear H;rintro v15 EY PU a w TB CV H;dsimp only [List.nil_append] at H;obtain ⟨VF,c15,rfl,-,-⟩:=TB.shape;refine kH H (ak K3 rfl (SQ fun _ K4=>SR fun _ K5=>Rm rfl (Kz K5 (Cd rfl ?_ ?_)))) <;> clear H K3 K5
 ·intro h16 a H
  try have p16:=dT h16
  have hlt:n < l.length:=by
   have:=Kt (ks:=l.map aO.key) (t:=k) (by rw [← hq];assumption);rw [← hn] at this;simpa using this
  refine kP H (SC (Rm rfl (Rm rfl (Rm rfl (Rd rfl ?_)))));clear H;intro a H;refine gH ahI (Li:=[]) (L:=PU) H wn rfl (afL _ _ PU (Hp.owns (Li:=[]) H.hp) _ l.length n (lF l) TB (XB l) hlt (by omega)) rfl ?_;clear H;rintro v21 Me L21 a w aad yg H;rw [(MR l n (by omega)).1,(MR l (n+1) (by omega)).2,← JQ] at aad;obtain ⟨G',hm',hrep,H⟩:=St.nW (Li:=[]) H aad (rows:=(l.take n++l.drop (n+1)).map aO.dat) (by simp;omega) (Oz _ _);exact kH H (bq K4 rfl (SR fun _ K6=>Rm rfl (ak K6 rfl (LR results215 rfl fun H=>H.rt (by rw [D9,au (by rw [← hq];assumption),← hn];exact hrep)))))
 intro h16 a H
 try have p16:=dF h16
 obtain ⟨G',hm',hrep,H⟩:=St.nW (Li:=[]) H TB (rows:=l.map aO.dat) (by simp) (Oz _ _);exact kP H (Kc K4 (SR fun _ K7=>Rm rfl (ak K7 rfl (LR results215 rfl fun H=>H.rt (by rw [D9,ah (by rw [← hq];simp_all)];exact hrep)))))
end Go.Proofs.YtdiflmikikiedaaGreat
