/-
  What the claim stands on, part 2: Cp Run Lay Srt Rg Pos Pq Doc Vis Dq Frs Ms Ids Idx Plc Plr Tbs Bld Hv Ut Prk Prp.
-/
import Derived.Test.YthmanofbmnfemaaGreatWaa
import Derived.Test.YthmanofbmnfemaaGreatRows
import Derived.Shelf.SlIterI.Nil
import Derived.Shelf.SortM.Plain
import Derived.Shelf.SortM.SortNone
import Derived.Lib.OthersKept
import Derived.Laws.IdiomStrings
import Derived.Laws.Cover4
import Derived.Laws.Slices
import Derived.Laws.Strings2
namespace Go.Proofs.YthmanofbmnfemaaGreat
open Go.Proofs.Tryz
section
open Go.RowKit
theorem nD:prog.underlying 3=some (.int .i64):=by kernel_rfl
theorem Nh:prog.underlying 5=some (.int .u8):=by kernel_rfl
theorem iD:prog.underlying 9=some .string:=by kernel_rfl
theorem ahp:∀ args w,(callFunc 227 args).run prog w=.ok (.enter 227 args) w:=enters func227 rfl (by kernel_rfl)
theorem ahd:∀ args w,(callFunc 202 args).run prog w=.ok (.enter 202 args) w:=enters func202 rfl (by kernel_rfl)
theorem agJ:∀ args w,(callFunc 157 args).run prog w=.ok (.enter 157 args) w:=enters func157 rfl (by kernel_rfl)
theorem E8:∀ args w,(callFunc 94 args).run prog w=.ok (.enter 94 args) w:=enters func94 rfl (by kernel_rfl)
def jF (b:Int):Int × Int × Int :=
  (if b=224 then 160 else if b=240 then 144 else 128,if b=237 then 159 else if b=244 then 143 else 191,
   if b < 128 then 1 else if b < 194∨244 < b then 0 else if b < 224 then 2 else if b < 240 then 3 else 4)
theorem Wq (b:Int):0≤(jF b).2.2∧(jF b).2.2≤4:=by
 simp only [jF];split
 ·omega
 split
 ·omega
 split
 ·omega
 split <;> omega
theorem apS (G:GH) (w0:World) (hG:Hold G w0) (b:Int) :
  Calls prog 227 #[.int .u8 b] w0 (bV w0 G fun v G'=>v=.tuple #[.int .u8 (jF b).1,.int .u8 (jF b).2.1,.int .i64 (jF b).2.2]∧G=G'):=by
 refine eN [(0,_)] func227 rfl ntmps227 rfl rfl hG ?_;intro a H;refine kP H (SR fun _ K1=>Ra rfl (Ra rfl (ak K1 rfl (SR fun _ K2=>Ra rfl (ak K2 rfl (SQ fun _ K3=>SB (SR fun _ K4=>Rm rfl (Rc rfl (ak K4 rfl (Cd rfl ?_ ?_)))))))))) <;> clear H K1 K2 K4
 ·intro h5 a H
  try have p5:=dT h5
  refine kP H (SC (aL K3 rfl (SQ fun _ K5=>SR fun _ K6=>Rm rfl (Kz K6 (SB (SR fun _ K7=>Rc rfl (ak K7 rfl (Cd rfl ?_ ?_)))))))) <;> clear H K3 K6 K7
  ·intro h22 a H
   try have jv:=dT h22
   refine kP H (SC (aL K5 rfl (SR fun _ K8=>Rm rfl (Rm rfl (Rm rfl (Ra rfl (Ra rfl (ak K8 rfl ?_))))))));clear H K5 K8;intro a H;refine dK ?_;refine (gY H results227 (.cons (bF H rfl) (.cons (bF H rfl) (.cons (bF H rfl) .nil))) ?_).1
   first|(exfalso;omega)|exact H.rt ⟨by simp only [jF];repeat (first|rw [au (by omega)]|rw [ah (by omega)]),rfl⟩
  intro h22 a H
  try have jv:=dF h22
  refine kP H (SR fun _ K9=>Rc rfl (ak K9 rfl (Cd rfl ?_ ?_))) <;> clear H K9
  ·intro iy a H
   try have ow:=dT iy
   refine kP H (SC (aL K5 rfl (SR fun _ aU=>Rm rfl (Rm rfl (Rm rfl (Ra rfl (Ra rfl (ak aU rfl ?_))))))));clear H K5 aU;intro a H;refine dK ?_;refine (gY H results227 (.cons (bF H rfl) (.cons (bF H rfl) (.cons (bF H rfl) .nil))) ?_).1
   first|(exfalso;omega)|exact H.rt ⟨by simp only [jF];repeat (first|rw [au (by omega)]|rw [ah (by omega)]),rfl⟩
  intro iy a H
  try have ow:=dF iy
  refine kP H (SR fun _ bD=>Rc rfl (ak bD rfl (Cd rfl ?_ ?_))) <;> clear H bD
  ·intro fE a H
   try have p26:=dT fE
   refine kP H (SC (aL K5 rfl (SR fun _ bE=>Rm rfl (Rm rfl (Rm rfl (Ra rfl (Ra rfl (ak bE rfl ?_))))))));clear H K5 bE;intro a H;refine dK ?_;refine (gY H results227 (.cons (bF H rfl) (.cons (bF H rfl) (.cons (bF H rfl) .nil))) ?_).1
   first|(exfalso;omega)|exact H.rt ⟨by simp only [jF];repeat (first|rw [au (by omega)]|rw [ah (by omega)]),rfl⟩
  intro fE a H
  try have p26:=dF fE
  refine kP H (SR fun _ bQ=>Rc rfl (ak bQ rfl (Cd rfl ?_ ?_))) <;> clear H bQ
  ·intro iK a H
   try have p28:=dT iK
   refine kP H (SC (aL K5 rfl (SR fun _ bR=>Rm rfl (Rm rfl (Rm rfl (Ra rfl (Ra rfl (ak bR rfl ?_))))))));clear H K5 bR;intro a H;refine dK ?_;refine (gY H results227 (.cons (bF H rfl) (.cons (bF H rfl) (.cons (bF H rfl) .nil))) ?_).1
   first|(exfalso;omega)|exact H.rt ⟨by simp only [jF];repeat (first|rw [au (by omega)]|rw [ah (by omega)]),rfl⟩
  intro iK a H
  try have p28:=dF iK
  refine kP H (Kc K5 (SR fun _ bW=>Rm rfl (Rm rfl (Rm rfl (Ra rfl (Ra rfl (ak bW rfl ?_)))))));clear H K5 bW;intro a H;refine dK ?_;refine (gY H results227 (.cons (bF H rfl) (.cons (bF H rfl) (.cons (bF H rfl) .nil))) ?_).1
  first|(exfalso;omega)|exact H.rt ⟨by simp only [jF];repeat (first|rw [au (by omega)]|rw [ah (by omega)]),rfl⟩
 intro h5 a H
 try have p5:=dF h5
 refine kP H (SR fun _ cK=>Rm rfl (Rc rfl (Rm rfl (Sp 11 rfl ?_ ?_)))) <;> clear H
 ·intro h11 a H
  try have yC:=dT h11
  refine kH H (aT h11 rfl (Pt h11 rfl (ak cK rfl (Ct rfl rfl (SC (aL K3 rfl (SQ fun _ bY=>SR fun _ dG=>Rm rfl (Kz dG (SB (SR fun _ dN=>Rc rfl (ak dN rfl (Cd rfl ?_ ?_)))))))))))) <;> clear H cK K3 dG dN
  ·intro h22 a H
   try have jv:=dT h22
   refine kP H (SC (aL bY rfl (SR fun _ dH=>Rm rfl (Rm rfl (Rm rfl (Ra rfl (Ra rfl (ak dH rfl ?_))))))));clear H bY dH;intro a H;refine dK ?_;refine (gY H results227 (.cons (bF H rfl) (.cons (bF H rfl) (.cons (bF H rfl) .nil))) ?_).1
   first|(exfalso;omega)|exact H.rt ⟨by simp only [jF];repeat (first|rw [au (by omega)]|rw [ah (by omega)]),rfl⟩
  intro h22 a H
  try have jv:=dF h22
  refine kP H (SR fun _ dP=>Rc rfl (ak dP rfl (Cd rfl ?_ ?_))) <;> clear H dP
  ·intro iy a H
   try have ow:=dT iy
   refine kP H (SC (aL bY rfl (SR fun _ eT=>Rm rfl (Rm rfl (Rm rfl (Ra rfl (Ra rfl (ak eT rfl ?_))))))));clear H bY eT;intro a H;refine dK ?_;refine (gY H results227 (.cons (bF H rfl) (.cons (bF H rfl) (.cons (bF H rfl) .nil))) ?_).1
   first|(exfalso;omega)|exact H.rt ⟨by simp only [jF];repeat (first|rw [au (by omega)]|rw [ah (by omega)]),rfl⟩
  intro iy a H
  try have ow:=dF iy
  refine kP H (SR fun _ fP=>Rc rfl (ak fP rfl (Cd rfl ?_ ?_))) <;> clear H fP
  ·intro fE a H
   try have p26:=dT fE
   refine kP H (SC (aL bY rfl (SR fun _ gq=>Rm rfl (Rm rfl (Rm rfl (Ra rfl (Ra rfl (ak gq rfl ?_))))))));clear H bY gq;intro a H;refine dK ?_;refine (gY H results227 (.cons (bF H rfl) (.cons (bF H rfl) (.cons (bF H rfl) .nil))) ?_).1
   first|(exfalso;omega)|exact H.rt ⟨by simp only [jF];repeat (first|rw [au (by omega)]|rw [ah (by omega)]),rfl⟩
  intro fE a H
  try have p26:=dF fE
  refine kP H (SR fun _ gG=>Rc rfl (ak gG rfl (Cd rfl ?_ ?_))) <;> clear H gG
  ·intro iK a H
   try have p28:=dT iK
   refine kP H (SC (aL bY rfl (SR fun _ iP=>Rm rfl (Rm rfl (Rm rfl (Ra rfl (Ra rfl (ak iP rfl ?_))))))));clear H bY iP;intro a H;refine dK ?_;refine (gY H results227 (.cons (bF H rfl) (.cons (bF H rfl) (.cons (bF H rfl) .nil))) ?_).1
   first|(exfalso;omega)|exact H.rt ⟨by simp only [jF];repeat (first|rw [au (by omega)]|rw [ah (by omega)]),rfl⟩
  intro iK a H
  try have p28:=dF iK
  refine kP H (Kc bY (SR fun _ jm=>Rm rfl (Rm rfl (Rm rfl (Ra rfl (Ra rfl (ak jm rfl ?_)))))));clear H bY jm;intro a H;refine dK ?_;refine (gY H results227 (.cons (bF H rfl) (.cons (bF H rfl) (.cons (bF H rfl) .nil))) ?_).1
  first|(exfalso;omega)|exact H.rt ⟨by simp only [jF];repeat (first|rw [au (by omega)]|rw [ah (by omega)]),rfl⟩
 intro h11 a H
 try have yC:=dF h11
 refine kH H (YM h11 rfl (YC h11 rfl (Pf h11 rfl (ak cK rfl (Cd rfl ?_ ?_))))) <;> clear H cK
 ·intro h8 a H
  try have p8:=dT h8
  refine kP H (SC (aL K3 rfl (SQ fun _ iH=>SR fun _ kW=>Rm rfl (Kz kW (SB (SR fun _ kX=>Rc rfl (ak kX rfl (Cd rfl ?_ ?_)))))))) <;> clear H K3 kW kX
  ·intro h22 a H
   try have jv:=dT h22
   refine kP H (SC (aL iH rfl (SR fun _ jQ=>Rm rfl (Rm rfl (Rm rfl (Ra rfl (Ra rfl (ak jQ rfl ?_))))))));clear H iH jQ;intro a H;refine dK ?_;refine (gY H results227 (.cons (bF H rfl) (.cons (bF H rfl) (.cons (bF H rfl) .nil))) ?_).1
   first|(exfalso;omega)|exact H.rt ⟨by simp only [jF];repeat (first|rw [au (by omega)]|rw [ah (by omega)]),rfl⟩
  intro h22 a H
  try have jv:=dF h22
  refine kP H (SR fun _ lC=>Rc rfl (ak lC rfl (Cd rfl ?_ ?_))) <;> clear H lC
  ·intro iy a H
   try have ow:=dT iy
   refine kP H (SC (aL iH rfl (SR fun _ lD=>Rm rfl (Rm rfl (Rm rfl (Ra rfl (Ra rfl (ak lD rfl ?_))))))));clear H iH lD;intro a H;refine dK ?_;refine (gY H results227 (.cons (bF H rfl) (.cons (bF H rfl) (.cons (bF H rfl) .nil))) ?_).1
   first|(exfalso;omega)|exact H.rt ⟨by simp only [jF];repeat (first|rw [au (by omega)]|rw [ah (by omega)]),rfl⟩
  intro iy a H
  try have ow:=dF iy
  refine kP H (SR fun _ lX=>Rc rfl (ak lX rfl (Cd rfl ?_ ?_))) <;> clear H lX
  ·intro fE a H
   try have p26:=dT fE
   refine kP H (SC (aL iH rfl (SR fun _ lY=>Rm rfl (Rm rfl (Rm rfl (Ra rfl (Ra rfl (ak lY rfl ?_))))))));clear H iH lY;intro a H;refine dK ?_;refine (gY H results227 (.cons (bF H rfl) (.cons (bF H rfl) (.cons (bF H rfl) .nil))) ?_).1
   first|(exfalso;omega)|exact H.rt ⟨by simp only [jF];repeat (first|rw [au (by omega)]|rw [ah (by omega)]),rfl⟩
  intro fE a H
  try have p26:=dF fE
  refine kP H (SR fun _ lZ=>Rc rfl (ak lZ rfl (Cd rfl ?_ ?_))) <;> clear H lZ
  ·intro iK a H
   try have p28:=dT iK
   refine kP H (SC (aL iH rfl (SR fun _ mV=>Rm rfl (Rm rfl (Rm rfl (Ra rfl (Ra rfl (ak mV rfl ?_))))))));clear H iH mV;intro a H;refine dK ?_;refine (gY H results227 (.cons (bF H rfl) (.cons (bF H rfl) (.cons (bF H rfl) .nil))) ?_).1
   first|(exfalso;omega)|exact H.rt ⟨by simp only [jF];repeat (first|rw [au (by omega)]|rw [ah (by omega)]),rfl⟩
  intro iK a H
  try have p28:=dF iK
  refine kP H (Kc iH (SR fun _ qX=>Rm rfl (Rm rfl (Rm rfl (Ra rfl (Ra rfl (ak qX rfl ?_)))))));clear H iH qX;intro a H;refine dK ?_;refine (gY H results227 (.cons (bF H rfl) (.cons (bF H rfl) (.cons (bF H rfl) .nil))) ?_).1
  first|(exfalso;omega)|exact H.rt ⟨by simp only [jF];repeat (first|rw [au (by omega)]|rw [ah (by omega)]),rfl⟩
 intro h8 a H
 try have p8:=dF h8
 refine kP H (SR fun _ vX=>Rm rfl (Rc rfl (ak vX rfl (Cd rfl ?_ ?_)))) <;> clear H vX
 ·intro jV a H
  try have qo:=dT jV
  refine kP H (SC (aL K3 rfl (SQ fun _ kY=>SR fun _ yQ=>Rm rfl (Kz yQ (SB (SR fun _ vY=>Rc rfl (ak vY rfl (Cd rfl ?_ ?_)))))))) <;> clear H K3 yQ vY
  ·intro h22 a H
   try have jv:=dT h22
   refine kP H (SC (aL kY rfl (SR fun _ EG=>Rm rfl (Rm rfl (Rm rfl (Ra rfl (Ra rfl (ak EG rfl ?_))))))));clear H kY EG;intro a H;refine dK ?_;refine (gY H results227 (.cons (bF H rfl) (.cons (bF H rfl) (.cons (bF H rfl) .nil))) ?_).1
   first|(exfalso;omega)|exact H.rt ⟨by simp only [jF];repeat (first|rw [au (by omega)]|rw [ah (by omega)]),rfl⟩
  intro h22 a H
  try have jv:=dF h22
  refine kP H (SR fun _ BX=>Rc rfl (ak BX rfl (Cd rfl ?_ ?_))) <;> clear H BX
  ·intro iy a H
   try have ow:=dT iy
   refine kP H (SC (aL kY rfl (SR fun _ AQ=>Rm rfl (Rm rfl (Rm rfl (Ra rfl (Ra rfl (ak AQ rfl ?_))))))));clear H kY AQ;intro a H;refine dK ?_;refine (gY H results227 (.cons (bF H rfl) (.cons (bF H rfl) (.cons (bF H rfl) .nil))) ?_).1
   first|(exfalso;omega)|exact H.rt ⟨by simp only [jF];repeat (first|rw [au (by omega)]|rw [ah (by omega)]),rfl⟩
  intro iy a H
  try have ow:=dF iy
  refine kP H (SR fun _ zW=>Rc rfl (ak zW rfl (Cd rfl ?_ ?_))) <;> clear H zW
  ·intro fE a H
   try have p26:=dT fE
   refine kP H (SC (aL kY rfl (SR fun _ Di=>Rm rfl (Rm rfl (Rm rfl (Ra rfl (Ra rfl (ak Di rfl ?_))))))));clear H kY Di;intro a H;refine dK ?_;refine (gY H results227 (.cons (bF H rfl) (.cons (bF H rfl) (.cons (bF H rfl) .nil))) ?_).1
   first|(exfalso;omega)|exact H.rt ⟨by simp only [jF];repeat (first|rw [au (by omega)]|rw [ah (by omega)]),rfl⟩
  intro fE a H
  try have p26:=dF fE
  refine kP H (SR fun _ Dj=>Rc rfl (ak Dj rfl (Cd rfl ?_ ?_))) <;> clear H Dj
  ·intro iK a H
   try have p28:=dT iK
   refine kP H (SC (aL kY rfl (SR fun _ BZ=>Rm rfl (Rm rfl (Rm rfl (Ra rfl (Ra rfl (ak BZ rfl ?_))))))));clear H kY BZ;intro a H;refine dK ?_;refine (gY H results227 (.cons (bF H rfl) (.cons (bF H rfl) (.cons (bF H rfl) .nil))) ?_).1
   first|(exfalso;omega)|exact H.rt ⟨by simp only [jF];repeat (first|rw [au (by omega)]|rw [ah (by omega)]),rfl⟩
  intro iK a H
  try have p28:=dF iK
  refine kP H (Kc kY (SR fun _ F6=>Rm rfl (Rm rfl (Rm rfl (Ra rfl (Ra rfl (ak F6 rfl ?_)))))));clear H kY F6;intro a H;refine dK ?_;refine (gY H results227 (.cons (bF H rfl) (.cons (bF H rfl) (.cons (bF H rfl) .nil))) ?_).1
  first|(exfalso;omega)|exact H.rt ⟨by simp only [jF];repeat (first|rw [au (by omega)]|rw [ah (by omega)]),rfl⟩
 intro jV a H
 try have qo:=dF jV
 refine kP H (SR fun _ F7=>Rm rfl (Rc rfl (ak F7 rfl (Cd rfl ?_ ?_)))) <;> clear H F7
 ·intro h18 a H
  try have tQ:=dT h18
  refine kP H (SC (aL K3 rfl (SQ fun _ uZ=>SR fun _ EH=>Rm rfl (Kz EH (SB (SR fun _ F8=>Rc rfl (ak F8 rfl (Cd rfl ?_ ?_)))))))) <;> clear H K3 EH F8
  ·intro h22 a H
   try have jv:=dT h22
   refine kP H (SC (aL uZ rfl (SR fun _ pW=>Rm rfl (Rm rfl (Rm rfl (Ra rfl (Ra rfl (ak pW rfl ?_))))))));clear H uZ pW;intro a H;refine dK ?_;refine (gY H results227 (.cons (bF H rfl) (.cons (bF H rfl) (.cons (bF H rfl) .nil))) ?_).1
   first|(exfalso;omega)|exact H.rt ⟨by simp only [jF];repeat (first|rw [au (by omega)]|rw [ah (by omega)]),rfl⟩
  intro h22 a H
  try have jv:=dF h22
  refine kP H (SR fun _ EI=>Rc rfl (ak EI rfl (Cd rfl ?_ ?_))) <;> clear H EI
  ·intro iy a H
   try have ow:=dT iy
   refine kP H (SC (aL uZ rfl (SR fun _ xK=>Rm rfl (Rm rfl (Rm rfl (Ra rfl (Ra rfl (ak xK rfl ?_))))))));clear H uZ xK;intro a H;refine dK ?_;refine (gY H results227 (.cons (bF H rfl) (.cons (bF H rfl) (.cons (bF H rfl) .nil))) ?_).1
   first|(exfalso;omega)|exact H.rt ⟨by simp only [jF];repeat (first|rw [au (by omega)]|rw [ah (by omega)]),rfl⟩
  intro iy a H
  try have ow:=dF iy
  refine kP H (SR fun _ EJ=>Rc rfl (ak EJ rfl (Cd rfl ?_ ?_))) <;> clear H EJ
  ·intro fE a H
   try have p26:=dT fE
   refine kP H (SC (aL uZ rfl (SR fun _ F9=>Rm rfl (Rm rfl (Rm rfl (Ra rfl (Ra rfl (ak F9 rfl ?_))))))));clear H uZ F9;intro a H;refine dK ?_;refine (gY H results227 (.cons (bF H rfl) (.cons (bF H rfl) (.cons (bF H rfl) .nil))) ?_).1
   first|(exfalso;omega)|exact H.rt ⟨by simp only [jF];repeat (first|rw [au (by omega)]|rw [ah (by omega)]),rfl⟩
  intro fE a H
  try have p26:=dF fE
  refine kP H (SR fun _ EK=>Rc rfl (ak EK rfl (Cd rfl ?_ ?_))) <;> clear H EK
  ·intro iK a H
   try have p28:=dT iK
   refine kP H (SC (aL uZ rfl (SR fun _ Gd=>Rm rfl (Rm rfl (Rm rfl (Ra rfl (Ra rfl (ak Gd rfl ?_))))))));clear H uZ Gd;intro a H;refine dK ?_;refine (gY H results227 (.cons (bF H rfl) (.cons (bF H rfl) (.cons (bF H rfl) .nil))) ?_).1
   first|(exfalso;omega)|exact H.rt ⟨by simp only [jF];repeat (first|rw [au (by omega)]|rw [ah (by omega)]),rfl⟩
  intro iK a H
  try have p28:=dF iK
  refine kP H (Kc uZ (SR fun _ AU=>Rm rfl (Rm rfl (Rm rfl (Ra rfl (Ra rfl (ak AU rfl ?_)))))));clear H uZ AU;intro a H;refine dK ?_;refine (gY H results227 (.cons (bF H rfl) (.cons (bF H rfl) (.cons (bF H rfl) .nil))) ?_).1
  first|(exfalso;omega)|exact H.rt ⟨by simp only [jF];repeat (first|rw [au (by omega)]|rw [ah (by omega)]),rfl⟩
 intro h18 a H
 try have tQ:=dF h18
 refine kP H (SC (aL K3 rfl (SQ fun _ uf=>SR fun _ Dl=>Rm rfl (Kz Dl (SB (SR fun _ Gf=>Rc rfl (ak Gf rfl (Cd rfl ?_ ?_)))))))) <;> clear H K3 Dl Gf
 ·intro h22 a H
  try have jv:=dT h22
  refine kP H (SC (aL uf rfl (SR fun _ Gg=>Rm rfl (Rm rfl (Rm rfl (Ra rfl (Ra rfl (ak Gg rfl ?_))))))));clear H uf Gg;intro a H;refine dK ?_;refine (gY H results227 (.cons (bF H rfl) (.cons (bF H rfl) (.cons (bF H rfl) .nil))) ?_).1
  first|(exfalso;omega)|exact H.rt ⟨by simp only [jF];repeat (first|rw [au (by omega)]|rw [ah (by omega)]),rfl⟩
 intro h22 a H
 try have jv:=dF h22
 refine kP H (SR fun _ EL=>Rc rfl (ak EL rfl (Cd rfl ?_ ?_))) <;> clear H EL
 ·intro iy a H
  try have ow:=dT iy
  refine kP H (SC (aL uf rfl (SR fun _ EM=>Rm rfl (Rm rfl (Rm rfl (Ra rfl (Ra rfl (ak EM rfl ?_))))))));clear H uf EM;intro a H;refine dK ?_;refine (gY H results227 (.cons (bF H rfl) (.cons (bF H rfl) (.cons (bF H rfl) .nil))) ?_).1
  first|(exfalso;omega)|exact H.rt ⟨by simp only [jF];repeat (first|rw [au (by omega)]|rw [ah (by omega)]),rfl⟩
 intro iy a H
 try have ow:=dF iy
 refine kP H (SR fun _ EN=>Rc rfl (ak EN rfl (Cd rfl ?_ ?_))) <;> clear H EN
 ·intro fE a H
  try have p26:=dT fE
  refine kP H (SC (aL uf rfl (SR fun _ I6=>Rm rfl (Rm rfl (Rm rfl (Ra rfl (Ra rfl (ak I6 rfl ?_))))))));clear H uf I6;intro a H;refine dK ?_;refine (gY H results227 (.cons (bF H rfl) (.cons (bF H rfl) (.cons (bF H rfl) .nil))) ?_).1
  first|(exfalso;omega)|exact H.rt ⟨by simp only [jF];repeat (first|rw [au (by omega)]|rw [ah (by omega)]),rfl⟩
 intro fE a H
 try have p26:=dF fE
 refine kP H (SR fun _ Gj=>Rc rfl (ak Gj rfl (Cd rfl ?_ ?_))) <;> clear H Gj
 ·intro iK a H
  try have p28:=dT iK
  refine kP H (SC (aL uf rfl (SR fun _ KP=>Rm rfl (Rm rfl (Rm rfl (Ra rfl (Ra rfl (ak KP rfl ?_))))))));clear H uf KP;intro a H;refine dK ?_;refine (gY H results227 (.cons (bF H rfl) (.cons (bF H rfl) (.cons (bF H rfl) .nil))) ?_).1
  first|(exfalso;omega)|exact H.rt ⟨by simp only [jF];repeat (first|rw [au (by omega)]|rw [ah (by omega)]),rfl⟩
 intro iK a H
 try have p28:=dF iK
 refine kP H (Kc uf (SR fun _ Nv=>Rm rfl (Rm rfl (Rm rfl (Ra rfl (Ra rfl (ak Nv rfl ?_)))))));clear H uf Nv;intro a H;refine dK ?_;refine (gY H results227 (.cons (bF H rfl) (.cons (bF H rfl) (.cons (bF H rfl) .nil))) ?_).1
 first|(exfalso;omega)|exact H.rt ⟨by simp only [jF];repeat (first|rw [au (by omega)]|rw [ah (by omega)]),rfl⟩
def jh (s:ByteArray) (i:Nat):Int:=if h:i < s.size then (s[i].toNat:Int) else 0
theorem nV {s:ByteArray} {i:Nat} (h:i < s.size):jh s i=(s[i].toNat:Int):=by simp [jh,h]
def xS (s:ByteArray) (at_ n:Nat):(fuel k:Nat)→(low high p:Int)→Int × Nat × Bool
 | 0,k,_,_,p=>(p,k,true)
 | f+1,k,low,high,p =>
  if n≤k then (p,k,true)
  else if s.size≤at_+k∨jh s (at_+k) < low∨high < jh s (at_+k) then (0,k,false)
  else xS s at_ n f (k+1) 128 191 (xP .or .i64 (IntKind.i64.wrap (p*2 ^ 6)) (xP .and .i64 (jh s (at_+k)) 63))
def oW (s:ByteArray) (at_:Nat):Int × Nat × Bool :=
 let b:=jh s at_
 let t:=jF b
 if t.2.2=0 then (0,0,false) else if t.2.2=1 then (b,1,true)
 else xS s at_ t.2.2.toNat 4 1 t.1 t.2.1 (xP .and .i64 b ((127:Int).fdiv (2 ^ t.2.2.toNat)))
theorem Wy (n:UInt8):IntKind.i64.wrap (n.toNat:Int)=(n.toNat:Int):=JZ (by omega) (by have:=n.toNat_lt;omega)
set_option maxHeartbeats 1000000 in
theorem agb (G:GH) (w0:World) (hG:Hold G w0) (s:ByteArray) (i:Nat) (hi:i < s.size) (hs:s.size < 4611686018427387904) :
  Calls prog 202 #[.string s,.int .i64 i] w0 (bV w0 G fun v G'=>v=.tuple #[.int .i64 (oW s i).1,.int .i64 (oW s i).2.1,.bool (oW s i).2.2]∧G=G'):=by
 have hb:=nV hi;obtain ⟨n,hn⟩:∃ n:Nat,(jF (jh s i)).2.2=(n:Int):=⟨(jF (jh s i)).2.2.toNat,by have:=Wq (jh s i);omega⟩
 have JQ:n≤4:=by have:=Wq (jh s i);omega
 refine eN [(0,_),(1,_)] func202 rfl ntmps202 rfl rfl hG ?_;intro a H;refine kP H (SR fun _ K1=>Ra rfl (Ra rfl (ak K1 rfl (SR fun _ K2=>Rm rfl (Rm rfl ?_)))));clear H K1;intro a H;refine qw _ iD H wn rfl rfl rfl (by first|assumption|omega) rfl ?_;clear H;intro a H;refine kH H (Ra rfl ?_);clear H;intro a H;rw [← hb] at H;refine K2 _ _ ?_;clear K2;refine kP H (SR fun _ K3=>Rm rfl ?_);clear H;intro a H;refine s_call ahp H wn rfl (apS _ _ H.ro _) rfl ?_;clear H;rintro v16 _ a w ⟨rfl,rfl⟩ - H;refine kH H (Rm rfl ?_);clear H;intro a H;(iterate 3 refine nQ H wn rfl rfl rfl ?_;clear H;intro a H);refine kH H (Ra rfl (Ra rfl (ak K3 rfl (SQ fun _ K4=>SR fun _ K5=>Rm rfl (Kz K5 (SB (SR fun _ K6=>Rc rfl (ak K6 rfl (Cd rfl ?_ ?_))))))))) <;> clear H K3 K5 K6
 ·intro h21 a H
  try have ou:=dT h21
  refine kP H (SR fun _ K7=>Ra rfl (Ra rfl (ak K7 rfl ?_)));clear H K7;intro a H;refine dK ?_;skip;refine (gY H results202 (.cons (bF H rfl) (.cons (bF H rfl) (.cons (bF H rfl) .nil))) ?_).1;exact H.rt ⟨by simp [oW,ou],rfl⟩
 intro h21 a H
 try have ou:=dF h21
 refine kP H (SR fun _ K8=>Rc rfl (ak K8 rfl (Cd rfl ?_ ?_))) <;> clear H K8
 ·intro h23 a H
  try have CP:=dT h23
  refine kP H (SR fun _ K9=>Rm rfl ?_);clear H;intro a H;refine Kl (jh s i) nD Nh H wn rfl (by rw [hb];exact Wy _) rfl ?_;clear H;intro a H;refine kH H (Ra rfl (Ra rfl (ak K9 rfl ?_)));clear H K9;intro a H;refine dK ?_;skip;refine (gY H results202 (.cons (bF H rfl) (.cons (bF H rfl) (.cons (bF H rfl) .nil))) ?_).1;exact H.rt ⟨by simp [oW,ou,CP],rfl⟩
 intro h23 a H
 try have CP:=dF h23
 refine kP H (Kc K4 (SR fun _ aU=>Rm rfl ?_));clear H K4;intro a H;refine Kl (jh s i) nD Nh H wn rfl (by rw [hb];exact Wy _) rfl ?_;clear H;intro a H;refine kH H (Rm rfl ?_);clear H;intro a H;refine acL n H wn rfl rfl (by rw [hn]) (by show n≤64;omega) rfl ?_;clear H;intro a H;refine Qd rfl H wn rfl rfl rfl ?_;clear H;intro a H;refine kH H (ak aU rfl (SQ fun _ bD=>SR fun _ bE=>ak bE rfl (SB ?_)));clear H aU bE;intro a H;skip;refine dV (ι:=Nat × Int × Int × Int) (Tc:=[(0,_),(1,_),(10,_)]) (Lc:=[]) (fun gh=>[(4,.int .i64 gh.2.2.2),(5,.int .i64 (gh.1:Int)),(8,.int .u8 gh.2.1),(9,.int .u8 gh.2.2.1)]) (fun gh=>[]) (fun gh=>G) (fun gh=>gh.1≤4∧oW s i=xS s i n (5 - gh.1) gh.1 gh.2.1 gh.2.2.1 gh.2.2.2) (fun gh=>5 - gh.1) ((1,_,_,_)) (by exact (H).sub ⟨rfl,rfl,rfl,rfl,rfl,rfl,rfl,av⟩) ?_ ?_
 ·refine ⟨by omega,?_⟩;simp only [oW,hn];rw [ah (by omega),ah (by omega)];rfl
 clear H;rintro ⟨k,low,high,p⟩ a w hI H;dsimp only at hI H;obtain ⟨hk,hdec⟩:=hI;dsimp only [lca,aO] at H;refine kP H (SQ fun _ bQ=>SR fun _ bR=>Rm rfl (Rm rfl (Rc rfl (Kz bR (Cd rfl ?_ ?_))))) <;> clear H bR
 ·intro dZ a H
  try have p34:=dT dZ
  refine kP H (Kc bQ (SQ fun _ bW=>SB (SQ fun _ cK=>SR fun _ bY=>Rm rfl (Rm rfl (Rd rfl (Rm rfl (Rv iD rfl (Rc rfl (Rm rfl (Sp 43 rfl ?_ ?_)))))))))) <;> clear H bQ
  ·intro h43 a H
   try have p43:=dT h43
   refine kH H (aZ h43 rfl (aT h43 rfl (aT h43 rfl (Pt h43 rfl (Rm rfl (aZ rfl rfl (aT rfl rfl (aT rfl rfl (Pt rfl rfl (Kz bY (Ct rfl rfl (SR fun _ dG=>Rm rfl (Ra rfl (Ra rfl (ak dG rfl ?_)))))))))))))));clear H bY dG;intro a H;refine dK ?_
   have hfin:oW s i=(if n≤k then (p,k,true) else (0,k,false)):=by
    rw [hdec];have e:5 - k=(4 - k)+1:=by omega
    rw [e,xS]
    by_cases hk2:n≤k
    ·rw [au hk2,au hk2]
    rw [ah hk2,ah hk2,au (by first|omega|(rw [nV (by omega)];omega))]
   refine (gY H results202 (.cons (bF H rfl) (.cons (bF H rfl) (.cons (bF H rfl) .nil))) ?_).1;exact H.rt ⟨by rw [hfin];first|rw [au (by omega)]|rw [ah (by omega)],rfl⟩
  intro h43 a H
  try have p43:=dF h43
  refine kH H (YM h43 rfl (YM h43 rfl (YM h43 rfl ?_)));clear H;intro a H;refine Qc _ H (wg H rfl rfl h43) rfl rfl rfl (by omega) (by omega) rfl ?_;clear H;intro a H;refine qw _ iD H (wg H rfl rfl h43) rfl rfl rfl (by first|assumption|omega) rfl ?_;clear H;intro a H;refine kH H (YM h43 rfl (YC h43 rfl (Pf h43 rfl (Rm rfl (Sp 52 rfl ?_ ?_))))) <;> clear H
  ·intro sD a H
   try have p52:=dT sD
   refine kH H (aZ sD rfl (aT sD rfl (aT sD rfl (Pt sD rfl (Kz bY (Ct rfl rfl (SR fun _ dN=>Rm rfl (Ra rfl (Ra rfl (ak dN rfl ?_))))))))));clear H bY dN;intro a H;refine dK ?_
   have hfin:oW s i=(if n≤k then (p,k,true) else (0,k,false)):=by
    rw [hdec];have e:5 - k=(4 - k)+1:=by omega
    rw [e,xS]
    by_cases hk2:n≤k
    ·rw [au hk2,au hk2]
    rw [ah hk2,ah hk2,au (by first|omega|(rw [nV (by omega)];omega))]
   refine (gY H results202 (.cons (bF H rfl) (.cons (bF H rfl) (.cons (bF H rfl) .nil))) ?_).1;exact H.rt ⟨by rw [hfin];first|rw [au (by omega)]|rw [ah (by omega)],rfl⟩
  intro sD a H
  try have p52:=dF sD
  refine kH H (YM sD rfl (YM sD rfl (YM sD rfl ?_)));clear H;intro a H;refine Qc _ H (wg H rfl rfl sD) rfl rfl rfl (by omega) (by omega) rfl ?_;clear H;intro a H;refine qw _ iD H (wg H rfl rfl sD) rfl rfl rfl (by first|assumption|omega) rfl ?_;clear H;intro a H;refine kH H (YM sD rfl (YC sD rfl (Pf sD rfl (Kz bY (Cd rfl ?_ ?_))))) <;> clear H bY
  ·intro fB a H
   try have p60:=dT fB
   refine kP H (SR fun _ dH=>Rm rfl (Ra rfl (Ra rfl (ak dH rfl ?_))));clear H dH;intro a H;refine dK ?_
   have hfin:oW s i=(if n≤k then (p,k,true) else (0,k,false)):=by
    rw [hdec];have e:5 - k=(4 - k)+1:=by omega
    rw [e,xS]
    by_cases hk2:n≤k
    ·rw [au hk2,au hk2]
    rw [ah hk2,ah hk2,au (by first|omega|(rw [nV (by omega)];omega))]
   refine (gY H results202 (.cons (bF H rfl) (.cons (bF H rfl) (.cons (bF H rfl) .nil))) ?_).1;exact H.rt ⟨by rw [hfin];first|rw [au (by omega)]|rw [ah (by omega)],rfl⟩
  intro fB a H
  try have p60:=dF fB
  refine kP H (Kc cK (SR fun _ dP=>Rm rfl ?_));clear H cK;intro a H;refine aoP _ H wn rfl rfl rfl (by decide) rfl ?_;clear H;intro a H;refine kH H (Rm rfl (Rm rfl (Rm rfl (Rd rfl ?_))));clear H;intro a H;refine qw _ iD H wn rfl rfl rfl (by first|assumption|omega) rfl ?_;clear H;intro a H;refine Kl (jh s (i+k)) nD Nh H wn rfl (by rw [nV (by omega)];exact Wy _) rfl ?_;clear H;intro a H;(iterate 2 refine Qd rfl H wn rfl rfl rfl ?_;clear H;intro a H);refine kH H (ak dP rfl (SC (Ra rfl (aL bW rfl (SC (Rm rfl (Rd rfl (Ra rfl ?_))))))));clear H dP bW;intro a H;refine aH ?_;refine cB ((k+1,128,191,xP .or .i64 (IntKind.i64.wrap (p*2 ^ 6)) (xP .and .i64 (jh s (i+k)) 63))) (by exact (H).sub ⟨rfl,rfl,rfl,rfl,rfl,rfl,rfl,av⟩) ?_ ?_
  ·(try dsimp only);refine ⟨by omega,?_⟩
   have e:5 - k=(5 - (k+1))+1:=by omega
   rw [hdec,e,xS,ah (by omega),nV (by omega),ah (by omega)]
  first|omega|(dsimp only;omega)
 intro dZ a H
 try have p34:=dF dZ
 refine dJ ?_;refine bD _ _ ?_;clear bD;refine kP H (SR fun _ eT=>Rm rfl (Rm rfl (Ra rfl (Ra rfl (ak eT rfl ?_)))));clear H eT;intro a H;refine dK ?_
 have hfin:oW s i=(if n≤k then (p,k,true) else (0,k,false)):=by
  rw [hdec];have e:5 - k=(4 - k)+1:=by omega
  rw [e,xS]
  by_cases hk2:n≤k
  ·rw [au hk2,au hk2]
  rw [ah hk2,ah hk2,au (by first|omega|(rw [nV (by omega)];omega))]
 refine (gY H results202 (.cons (bF H rfl) (.cons (bF H rfl) (.cons (bF H rfl) .nil))) ?_).1;exact H.rt ⟨by rw [hfin];first|rw [au (by omega)]|rw [ah (by omega)],rfl⟩
theorem YB (s:ByteArray) (at_ n:Nat):∀ (f k:Nat) (low high p:Int),n≤k+f→k≤n→k≤(xS s at_ n f k low high p).2.1∧(xS s at_ n f k low high p).2.1≤n∧((xS s at_ n f k low high p).2.2=true→at_+k≤s.size→at_+(xS s at_ n f k low high p).2.1≤s.size)
 | 0,k,low,high,p,h1,h2=>by simp only [xS];omega
 | f+1,k,low,high,p,h1,h2=>by
  unfold xS
  split
  ·simp only [];omega
  split
  ·simp only [];omega
  have ih:=YB s at_ n f (k+1) 128 191 (xP .or .i64 (IntKind.i64.wrap (p*2 ^ 6)) (xP .and .i64 (jh s (at_+k)) 63)) (by omega) (by omega);refine ⟨by have:=ih.1;omega,ih.2.1,fun h3 h4=>ih.2.2 h3 (by omega)⟩
theorem YD (s:ByteArray) (i:Nat) (hi:i < s.size):(oW s i).2.1≤4∧((oW s i).2.2=true→1≤(oW s i).2.1∧i+(oW s i).2.1≤s.size):=by
 have ht:=Wq (jh s i)
 unfold oW
 simp only []
 split
 ·simp
 split
 ·simp;omega
 have:=YB s i (jF (jh s i)).2.2.toNat 4 1 (jF (jh s i)).1 (jF (jh s i)).2.1 (xP .and .i64 (jh s i) ((127:Int).fdiv (2 ^ (jF (jh s i)).2.2.toNat))) (by omega) (by omega);refine ⟨by omega,fun h=>⟨by omega,this.2.2 h (by omega)⟩⟩
def vG (s:ByteArray) (i:Nat):Int :=
 if h:i < s.size then (if h2:(oW s i).2.2=true then vG s (i+(oW s i).2.1) else i) else -1
 termination_by s.size - i
 decreasing_by have:=(YD s i h).2 h2;omega
theorem aiv (G:GH) (w0:World) (hG:Hold G w0) (s:ByteArray) (hs:s.size < 4611686018427387904) :
  Calls prog 157 #[.string s] w0 (bV w0 G fun v G'=>v=.int .i64 (vG s 0)∧G=G'):=by
 refine eN [(0,_)] func157 rfl ntmps157 rfl rfl hG ?_;intro a H;refine kP H (SR fun _ K1=>ak K1 rfl (SQ fun _ K2=>SR fun _ K3=>ak K3 rfl (SB ?_)));clear H K1 K3;intro a H;skip;refine dV (ι:=Nat) (Tc:=[(0,_)]) (Lc:=[]) (fun gh=>[(3,.int .i64 (gh:Int))]) (fun gh=>[]) (fun gh=>G) (fun gh=>gh≤s.size∧vG s 0=vG s gh) (fun gh=>s.size - gh) (0) (by exact (H).sub ⟨rfl,rfl,av⟩) ?_ ?_
 ·exact ⟨by omega,rfl⟩
 clear H;intro i a w hI H;obtain ⟨hk,hf⟩:=hI;dsimp only [lca,aO] at H;refine kP H (SQ fun _ K4=>SR fun _ K5=>Rm rfl (Rm rfl (Rv iD rfl (Rc rfl (Kz K5 (Cd rfl ?_ ?_)))))) <;> clear H K5
 ·intro h10 a H
  try have sJ:=dT h10
  refine kP H (Kc K4 (SB (SR fun _ K6=>Rm rfl (Rm rfl ?_))));clear H K4;intro a H;refine s_call ahd H wn rfl (agb _ _ H.ro s i (by omega) hs) rfl ?_;clear H;rintro v14 _ a w ⟨rfl,rfl⟩ - H;have hd:=YD s i (by omega);refine kH H (Rm rfl ?_);clear H;intro a H;(iterate 3 refine nQ H wn rfl rfl rfl ?_;clear H;intro a H);refine kH H (Ra rfl (Ra rfl (ak K6 rfl (SQ fun _ K7=>SR fun _ K8=>Rm rfl (Rn rfl (Kz K8 (Cd rfl ?_ ?_))))))) <;> clear H K6 K8
  ·intro h19 a H
   try have zG:=dT h19
   exact kP H (SR fun _ K9=>Rm rfl (ak K9 rfl (LR results157 rfl fun H=>H.rt ⟨by rw [hf,vG,dif_pos (by omega),dif_neg (by simpa using h19)],rfl⟩)))
  intro h19 a H
  try have zG:=dF h19
  refine kP H (Kc K7 (SC (Rm rfl (Rm rfl (Rd rfl (Ra rfl ?_))))));clear H K7;intro a H;refine aH ?_;refine cB ((i+(oW s i).2.1)) (by exact (H).sub ⟨rfl,rfl,av⟩) ?_ ?_
  ·have h1:(oW s i).2.2=true:=by simpa using h19
   have h2:=hd.2 h1;refine ⟨by omega,?_⟩;rw [hf,vG,dif_pos (by omega),dif_pos h1]
  have h1:(oW s i).2.2=true:=by simpa using h19
  have h2:=hd.2 h1
  omega
 intro h10 a H
 try have sJ:=dF h10
 refine dJ ?_;refine K2 _ _ ?_;clear K2;exact kP H (SR fun _ aU=>ak aU rfl (LR results157 rfl fun H=>H.rt ⟨by rw [hf,vG,dif_neg (by omega)],rfl⟩))
def qW (s:ByteArray):Bool:=decide (vG s 0 < 0)
theorem FY (G:GH) (w0:World) (hG:Hold G w0) (s:ByteArray) (hs:s.size < 4611686018427387904) :
  Calls prog 94 #[.string s] w0 (bV w0 G fun v G'=>v=.bool (qW s)∧G=G'):=by
 refine eN [(0,_)] func94 rfl ntmps94 rfl rfl hG ?_;intro a H;refine kP H (SR fun _ K1=>ak K1 rfl (SR fun _ K2=>Rm rfl ?_));clear H K1;intro a H;refine s_call agJ H wn rfl (aiv _ _ H.ro s hs) rfl ?_;clear H;rintro v4 _ a w ⟨rfl,rfl⟩ - H;exact kH H (Rc rfl (ak K2 rfl (LR results94 rfl fun H=>H.rt ⟨rfl,rfl⟩)))
def vB (s:ByteArray) (i:Nat):Nat :=
 if i < s.size then (if xP .and .u8 (jh s i) 192=128 then 0 else 1)+vB s (i+1) else 0
 termination_by s.size - i
theorem Yv (s:ByteArray):∀ (n i:Nat),s.size - i=n→vB s i≤n
 | 0,i,h=>by rw [vB,ah (by omega)];exact dB _
 | n+1,i,h=>by
  have ih:=Yv s n (i+1) (by omega);rw [vB,au (by omega)]
  split <;> omega
def xR (s:ByteArray):Nat:=if qW s then vB s 0 else 0
def KD (s:ByteArray):Int:=if qW s then 0 else 12
theorem EZ (s:ByteArray):xR s≤s.size:=by unfold xR;have:=Yv s s.size 0 (by omega);split <;> omega
theorem NW (G:GH) (w0:World) (hG:Hold G w0) (s:ByteArray) (hs:s.size < 4611686018427387904) :
  Calls prog 53 #[.string s] w0 (bV w0 G fun v G'=>v=.tuple #[vi (xR s),vi (KD s)]∧G=G'):=by
 refine eN [(0,_)] func53 rfl ntmps53 rfl rfl hG ?_;intro a H;refine kP H (SR fun _ K1=>Ra rfl (ak K1 rfl (SQ fun _ K2=>SR fun _ K3=>Rm rfl ?_)));clear H K1;intro a H;refine s_call E8 H wn rfl (FY _ _ H.ro s hs) rfl ?_;clear H;rintro v6 _ a w ⟨rfl,rfl⟩ - H;refine kH H (Rn rfl (Kz K3 (Cd rfl ?_ ?_))) <;> clear H K3
 ·intro h7 a H
  refine kP H (SR fun _ K4=>Ra rfl (ak K4 rfl ?_));clear H K4;intro a H;refine dK ?_;refine (gY H results53 (.cons (bF H rfl) (.cons (bF H rfl) .nil)) ?_).1;exact H.rt ⟨by simp [xR,KD,show qW s=false by simpa using h7],rfl⟩
 intro h7 a H
 try have p7:=dF h7
 refine kP H (Kc K2 (SQ fun _ K5=>SR fun _ K6=>Rm rfl (Rv iD rfl (Rm rfl (Kz K6 (SB ?_))))));clear H K2 K6;intro a H;skip;refine dV (ι:=Nat × Nat) (Tc:=[(0,_),(9,_)]) (Lc:=[]) (fun gh=>[(2,vi gh.2),(10,vi gh.1)]) (fun gh=>[]) (fun gh=>G) (fun gh=>gh.1≤s.size∧gh.2≤gh.1∧gh.2+vB s gh.1=xR s) (fun gh=>s.size - gh.1) ((0,0)) (by exact (H).sub ⟨rfl,rfl,rfl,rfl,av⟩) ?_ ?_
 ·exact ⟨by omega,by omega,by simp [xR,show qW s=true by simpa using h7]⟩
 clear H;rintro ⟨i,n⟩ a w hI H;dsimp only at hI H;obtain ⟨hk,hn,hf⟩:=hI;dsimp only [lca,aO] at H;refine kP H (SR fun _ K7=>Rc rfl (Kz K7 (SQ fun _ K8=>Cd rfl ?_ ?_))) <;> clear H K7
 ·intro h11 a H
  try have yC:=dT h11
  refine kP H (Kc K8 (SQ fun _ K9=>SB (SR fun _ aU=>Rm rfl (ak aU rfl (SR fun _ bD=>Rm rfl (Rm rfl ?_))))));clear H K8 aU;intro a H;refine qw _ iD H wn rfl rfl rfl (by first|assumption|omega) rfl ?_;clear H;intro a H;refine Qd rfl H wn rfl rfl rfl ?_;clear H;intro a H;refine kH H (Rc rfl (Kz bD (Cd rfl ?_ ?_))) <;> clear H bD
  ·intro gu a H
   try have mo:=dT gu
   refine kP H (SC (Rm rfl (Rd rfl (aL K9 rfl (SC (Rd rfl (Rm rfl ?_)))))));clear H K9;intro a H;refine aH ?_;refine cB ((i+1,n+1)) (by exact (H).sub ⟨rfl,rfl,rfl,rfl,av⟩) ?_ ?_
   ·(try dsimp only);rw [← nV (by omega)] at mo;rw [vB,au (by omega),ah mo] at hf;exact ⟨by omega,by omega,by omega⟩
   first|omega|(dsimp only;omega)
  intro gu a H
  try have mo:=dF gu
  refine kP H (Kc K9 (SC (Rd rfl (Rm rfl ?_))));clear H K9;intro a H;refine aH ?_;refine cB ((i+1,n)) (by exact (H).sub ⟨rfl,rfl,rfl,rfl,av⟩) ?_ ?_
  ·(try dsimp only);rw [← nV (by omega),gL] at mo;rw [vB,au (by omega),au mo] at hf;exact ⟨by omega,by omega,by omega⟩
  first|omega|(dsimp only;omega)
 intro h11 a H
 try have yC:=dF h11
 refine dJ ?_;refine K5 _ _ ?_;clear K5;refine kP H (SR fun _ bE=>Rm rfl (Ra rfl (ak bE rfl ?_)));clear H bE;intro a H;refine dK ?_;refine (gY H results53 (.cons (bF H rfl) (.cons (bF H rfl) .nil)) ?_).1;exact H.rt ⟨by rw [vB,ah (by omega),nT] at hf;rw [hf];simp [KD,show qW s=true by simpa using h7],rfl⟩
end
section
open Go.RowKit
theorem hmx:prog.follows .mixedOrders=true:=by kernel_rfl
theorem gH:dL prog 68 0 0:=⟨by kernel_rfl⟩
theorem aD:Ty prog 3 1 8 [.int .i64 0] false:=⟨by kernel_rfl,by kernel_rfl⟩
theorem vF:dL prog 68 3 3:=⟨by kernel_rfl⟩
theorem gZ:Ty prog 9 1 16 [.string ⟨#[]⟩] false:=⟨by kernel_rfl,by kernel_rfl⟩
theorem Og:∀ args w,(callFunc 53 args).run prog w=.ok (.enter 53 args) w:=enters func53 rfl (by kernel_rfl)
theorem jM:prog.underlying 22=some (.slice 68):=by kernel_rfl
theorem eH:Ty prog 68 11 176 [.int .i64 0,.int .i64 0,.int .i64 0,.string ⟨#[]⟩,.slice none 0 0,.int .i64 0,.int .i64 0,.slice none 0 0,.slice none 0 0,.slice none 0 0,.slice none 0 0] true:=⟨by kernel_rfl,by kernel_rfl⟩
theorem agp:∀ args w,(callFunc 105 args).run prog w=.ok (.enter 105 args) w:=enters func105 rfl (by kernel_rfl)
theorem tV:prog.underlying 23=some (.slice 171):=by kernel_rfl
theorem tT:Ty prog 171 2 16 [.int .i64 0,.int .i64 0] true:=⟨by kernel_rfl,by kernel_rfl⟩
theorem lW:prog.underlying 24=some (.slice 115):=by kernel_rfl
theorem rR:Ty prog 115 2 16 [.int .i64 0,.int .i64 0] true:=⟨by kernel_rfl,by kernel_rfl⟩
theorem tX:prog.underlying 25=some (.slice 117):=by kernel_rfl
theorem uU:Ty prog 117 4 32 [.int .i64 0,.int .i64 0,.int .i64 0,.bool false] true:=⟨by kernel_rfl,by kernel_rfl⟩
theorem lU:Ty prog 29 5 88 [.slice none 0 0,.int .i64 0,.int .i64 0,.slice none 0 0,.slice none 0 0] true:=⟨by kernel_rfl,by kernel_rfl⟩
theorem Cq:dL prog 29 0 0:=⟨by kernel_rfl⟩
theorem zM:Ty prog 23 1 24 [.slice none 0 0] false:=⟨by kernel_rfl,by kernel_rfl⟩
theorem vD:dL prog 29 1 1:=⟨by kernel_rfl⟩
theorem mJ:dL prog 27 2 2:=⟨by kernel_rfl⟩
theorem mR:Ty prog 24 1 24 [.slice none 0 0] false:=⟨by kernel_rfl,by kernel_rfl⟩
theorem wF:dL prog 27 3 3:=⟨by kernel_rfl⟩
theorem xk:Ty prog 25 1 24 [.slice none 0 0] false:=⟨by kernel_rfl,by kernel_rfl⟩
theorem jG:prog.underlying 66=some (.slice 144):=by kernel_rfl
theorem jJ:Ty prog 144 6 112 [.slice none 0 0,.int .i64 0,.int .i64 0,.slice none 0 0,.slice none 0 0,.slice none 0 0] true:=⟨by kernel_rfl,by kernel_rfl⟩
theorem lQ:prog.underlying 142=some (.slice 147):=by kernel_rfl
theorem jK:Ty prog 147 7 120 [.int .i64 0,.slice none 0 0,.int .i64 0,.int .i64 0,.slice none 0 0,.slice none 0 0,.slice none 0 0] true:=⟨by kernel_rfl,by kernel_rfl⟩
theorem DC:dL prog 147 0 0:=⟨by kernel_rfl⟩
theorem LM:dL prog 147 1 1:=⟨by kernel_rfl⟩
theorem Cn:dL prog 147 2 6:=⟨by kernel_rfl⟩
theorem jy:Ty prog 22 1 24 [.slice none 0 0] false:=⟨by kernel_rfl,by kernel_rfl⟩
theorem acW:ug prog 147 [(0,1),(1,5),(6,1)] [.int .i64 0,.slice none 0 0,.int .i64 0,.int .i64 0,.slice none 0 0,.slice none 0 0,.slice none 0 0]:=⟨by kernel_rfl,by kernel_rfl⟩
theorem GU:dL prog 144 0 0:=⟨by kernel_rfl⟩
theorem qh:dL prog 144 1 5:=⟨by kernel_rfl⟩
theorem qy:Ty prog 142 1 24 [.slice none 0 0] false:=⟨by kernel_rfl,by kernel_rfl⟩
theorem apE:ug prog 144 [(0,5),(5,1)] [.slice none 0 0,.int .i64 0,.int .i64 0,.slice none 0 0,.slice none 0 0,.slice none 0 0]:=⟨by kernel_rfl,by kernel_rfl⟩
theorem GZ:dL prog 68 4 4:=⟨by kernel_rfl⟩
theorem Bh:dL prog 68 5 9:=⟨by kernel_rfl⟩
theorem qH:dL prog 68 6 10:=⟨by kernel_rfl⟩
theorem qR:Ty prog 66 1 24 [.slice none 0 0] false:=⟨by kernel_rfl,by kernel_rfl⟩
def gI (x:aC):Nat:=if x.kind=1 then xR x.text else 1
def AJ (x:aC):Int:=if x.kind=1 then KD x.text else 0
theorem aqd (G:GH) (w0:World) (hG:Hold G w0) (x:aC) (i2 i3:Int) (p i5 i6 d l f r:aj) (hs:x.text.size < 4611686018427387904) :
  Calls prog 105 #[.agg #[vi x.kind,vi i2,vi i3,.string x.text,p,i5,i6,d,l,f,r]] w0 (bV w0 G fun v G'=>v=.tuple #[vi (gI x),vi (AJ x)]∧G=G'):=by
 refine eN [(0,_)] func105 rfl ntmps105 rfl rfl hG ?_;intro a H;refine cO (fun _ K1=>?_);refine fD (cs:=[_,_,_,_,_,_,_,_,_,_,_]) H wn rfl rfl rfl ?_;clear H;intro b1 a w hb1 H;refine kH H (Ra rfl (ak K1 rfl (SQ fun _ K2=>SR fun _ K3=>aR gH aD 0 rfl rfl (Rc rfl (Kz K3 (Cd rfl ?_ ?_)))))) <;> clear H K1 K3
 ·intro h6 a H
  try have p6:=dT h6
  refine kP H (SR fun _ K4=>Ra rfl (ak K4 rfl ?_));clear H K4;intro a H;refine dK ?_;refine (gY H results105 (.cons (bF H rfl) (.cons (bF H rfl) .nil)) ?_).1;exact H.rt ⟨by simp only [gI,AJ,ah p6];rfl,rfl⟩
 intro h6 a H
 try have p6:=dF h6
 refine kP H (Kc K2 (SR fun _ K5=>aR vF gZ 0 rfl rfl ?_));clear H K2;intro a H;refine s_call Og H wn rfl (NW _ _ H.ro _ hs) rfl ?_;clear H;rintro v9 _ a w ⟨rfl,rfl⟩ - H;(iterate 2 refine nQ H wn rfl rfl rfl ?_;clear H;intro a H);refine kH H (Ra rfl (ak K5 rfl ?_));clear H K5;intro a H;refine dK ?_;refine (gY H results105 (.cons (bF H rfl) (.cons (bF H rfl) .nil)) ?_).1;exact H.rt ⟨by rw [gL] at p6;simp only [gI,AJ,au p6],rfl⟩
def xU (l:List aC):Bool:=l.all fun x=>decide (AJ x=0)
def uT:List aC→Nat
 | []=>0
 | x :: l=>gI x+uT l
def uO (l:List aC):Int:=if xU l then uT l else 0
def Vj (l:List aC):Int:=if xU l then 0 else 12
def vS:List aC→Nat
 | []=>0
 | x :: l=>x.text.size+1+vS l
theorem Wm:∀ l:List aC,uT l≤vS l
 | []=>dB _
 | x :: l=>by
  have:=Wm l;have h2:=EZ x.text
  simp only [uT,vS,gI];split <;> omega
theorem ado {x:aC}:∀ {l:List aC},x∈l→x.text.size < vS l
 | [],h=>by cases h
 | y :: l,h=>by
  simp only [vS]
  rcases nG.1 h with rfl|h
  ·omega
  have:=ado h;omega
theorem apP (l m:List aC):uT (l++m)=uT l+uT m:=by
 induction l with
 | nil=>simp [uT]
 | cons x l ih=>simp [uT,ih];omega
theorem apQ {l:List aC} {k:Nat} (h:k < l.length):uT (l.take (k+1))=uT (l.take k)+gI l[k]:=by
 rw [lG h,apP];simp [uT]
theorem apU (l m:List aC):vS (l++m)=vS l+vS m:=by
 induction l with
 | nil=>simp [vS]
 | cons x l ih=>simp [vS,ih];omega
theorem apV (l:List aC) (k:Nat):vS (l.take k)≤vS l:=by
 have:=apU (l.take k) (l.drop k);rw [List.take_append_drop] at this;omega
theorem Bl {G:GH} {l:List aC} {A:Option Addr} {k:Nat} (hk:k < l.length) (hg:∀ k r,(l.map aC.dat)[k]?=some r→∃ b o cs,A=some ⟨b,o,none⟩∧cs.length=11∧(∀ j u,cs[j]?=some u→aF G b (o+k*11+j)=some u)∧bM G r cs) :
  ∃ b o pA pn pc dA dn dc yA yn yc fA fn fc rA rn rc,A=some ⟨b,o,none⟩∧(∀ j u,[vi l[k].kind,vi l[k].code,vi l[k].id,.string l[k].text,.slice pA pn pc,vi l[k].head.marks.ins,vi l[k].head.marks.move,.slice dA dn dc,.slice yA yn yc,.slice fA fn fc,.slice rA rn rc][j]?=some u→aF G b (o+k*11+j)=some u) ∧
   nS G l[k].head (.slice pA pn pc) (.slice dA dn dc) (.slice yA yn yc)∧aB G (.sl 11 (l[k].flow.map aC.dat)) (.slice fA fn fc)∧aB G (.sl 6 (l[k].rows.map bH.dat)) (.slice rA rn rc):=by
 obtain ⟨b,o,cs,h1,h2,h3,h4⟩:=hg k l[k].dat (by simp [hk]);obtain ⟨pA,pn,pc,dA,dn,dc,yA,yn,yc,fA,fn,fc,rA,rn,rc,rfl,h5,h6,h7⟩:=h4.item;exact ⟨b,o,pA,pn,pc,dA,dn,dc,yA,yn,yc,fA,fn,fc,rA,rn,rc,h1,h3,h5,h6,h7⟩
theorem agf {l:List aC} {k:Nat} (h:k < l.length):xU (l.take (k+1))=(xU (l.take k) && decide (AJ l[k]=0)):=by
 unfold xU
 rw [lG h,List.all_append];simp
theorem agd {l:List aC} {k:Nat} (h:k < l.length) (hn:¬ AJ l[k]=0):xU l=false:=by
 unfold xU
 rw [List.all_eq_false];exact ⟨l[k],jD h,by simpa using hn⟩
theorem abB:∀ l:List aC,l.length≤vS l
 | []=>dB _
 | x :: l=>by have:=abB l;simp only [jZ,vS];omega
theorem Wt:∀ l:List aC,vS l≤bB l
 | []=>dB _
 | x :: l=>by
  have:=Wt l;have h2:=oN x
  simp only [vS,bB,dW,eu] at *;omega
theorem J4 (G:GH) (w0:World) (hG:Hold G w0) (l:List aC) (v:aj) (hv:aB G (.sl 11 (l.map aC.dat)) v) (hz:bB l≤4294967296) :
  Calls prog 51 #[v] w0 (bV w0 G fun v G'=>v=.tuple #[vi (uO l),vi (Vj l)]∧G=G'):=by
 obtain ⟨A,c,rfl,hc1,hc2,hg⟩:=hv.slice;rw [bN] at *;have hll:=abB l;have htz:=Wt l;refine eN [(0,_)] func51 rfl ntmps51 rfl rfl hG ?_;intro a H;refine kP H (SR fun _ K1=>Ra rfl (ak K1 rfl (SR fun _ K2=>ak K2 rfl (SQ fun _ K3=>SR fun _ K4=>Rm rfl (Rl jM rfl (Rm rfl (Kz K4 (SB ?_))))))));clear H K1 K2 K4;intro a H;skip;refine dV (ι:=Nat) (Tc:=[(9,_),(10,_)]) (Lc:=[]) (fun gh=>[(4,vi (uT (l.take gh))),(11,vi gh)]) (fun gh=>[]) (fun gh=>G) (fun gh=>gh≤l.length∧xU (l.take gh)=true) (fun gh=>l.length - gh) (0) (by exact (H).sub ⟨rfl,rfl,rfl,rfl,av⟩) ?_ ?_
 ·exact ⟨by omega,by simp [xU]⟩
 clear H;intro k a w hI H;obtain ⟨hk,hd⟩:=hI;dsimp only [lca,aO] at H;refine kP H (SR fun _ K5=>Rc rfl (Kz K5 (SQ fun _ K6=>Cd rfl ?_ ?_))) <;> clear H K5
 ·intro h12 a H
  try have qm:=dT h12
  have hk2:k < l.length:=by omega
  obtain ⟨b,o,pA,pn,pc,dA,dn,dc,yA,yn,yc,fA,fn,fc,rA,rn,rc,rfl,hrow,-⟩:=Bl hk2 hg;have hsm:=apQ hk2;have hle:=Wm (l.take (k+1));have hle2:=apV l (k+1);refine kP H (Kc K6 (SQ fun _ K7=>SB (SR fun _ K8=>Ri jM eH rfl rfl ?_)));clear H K6;intro a H;refine bK eH (cs:=[_,_,_,_,_,_,_,_,_,_,_]) H wn rfl rfl (fun j v hj=>H.hp.aF (hrow j v hj)) rfl ?_;clear H;intro a H;refine dY eH H wn rfl ?_;clear H;intro b6 a w hb6 H;refine bT eH 0 (vs:=[_,_,_,_,_,_,_,_,_,_,_]) _ H wn rfl rfl rfl rfl rfl rfl rfl rfl ?_;clear H;intro w H;dsimp only [List.set,setRow] at H;refine K8 _ _ ?_;clear K8;refine cO (fun _ K9=>?_);refine bK eH (cs:=[_,_,_,_,_,_,_,_,_,_,_]) H wn rfl rfl (H.hp.fG 0 rfl rfl) rfl ?_;clear H;intro a H;refine s_call agp H wn rfl (aqd _ _ H.ro _ _ _ _ _ _ _ _ _ _ (by have:=ado (jD hk2);omega)) rfl ?_;clear H;rintro v17 _ a w ⟨rfl,rfl⟩ - H;refine kH H (Rm rfl ?_);clear H;intro a H;(iterate 2 refine nQ H wn rfl rfl rfl ?_;clear H;intro a H);refine kH H (Ra rfl (ak K9 rfl (SQ fun _ aU=>SR fun _ bD=>Rm rfl (Rc rfl (Kz bD (Cd rfl ?_ ?_)))))) <;> clear H K9 bD
  ·intro h21 a H
   try have ou:=dT h21
   refine kP H (SR fun _ bE=>Ra rfl (ak bE rfl ?_));clear H bE;intro a H;refine dK ?_;refine (gY H results51 (.cons (bF H rfl) (.cons (bF H rfl) .nil)) ?_).1;exact H.rt ⟨by simp [uO,Vj,agd hk2 ou],rfl⟩
  intro h21 a H
  try have ou:=dF h21
  refine kP H (Kc aU (SC (Rm rfl (Rm rfl (Rd rfl ?_)))));clear H aU;intro a H;rw [← Int.natCast_add,← hsm] at H;refine kH H (aL K7 rfl (SC (Rd rfl (Rm rfl ?_))));clear H K7;intro a H;refine aH ?_;refine cB ((k+1)) (by exact (H.dx (Pl:=[_]) (bZ:=[]) [] (by decide) rfl).sub ⟨rfl,rfl,rfl,rfl,av⟩) ?_ ?_
  ·exact ⟨by omega,by rw [agf hk2,hd];simpa using ou⟩
  first|omega|(dsimp only;omega)
 intro h12 a H
 try have qm:=dF h12
 refine dJ ?_;refine K3 _ _ ?_;clear K3;refine kP H (SR fun _ bQ=>Rm rfl (Ra rfl (ak bQ rfl ?_)));clear H bQ;intro a H;refine dK ?_;refine (gY H results51 (.cons (bF H rfl) (.cons (bF H rfl) .nil)) ?_).1;exact H.rt ⟨by rw [show l.take k=l from mF (by omega)] at hd ⊢;simp [uO,Vj,hd],rfl⟩
end
section
open Go.RowKit
def abz:Go.Shelf.Ren:=⟨fun|7=>59|10=>111|n=>n,fun|0=>0|3=>4|4=>4|23=>96|26=>3|27=>118|28=>119|33=>172|n=>n,fun n=>n⟩
theorem aby:Go.Proofs.SlLaysZI.n7 prog abz where
 mixed:=by kernel_rfl
 f7:=⟨f59.name,by kernel_rfl,func59.trans (ay some (by kernel_rfl))⟩
 f10:=⟨f111.name,by kernel_rfl,func111.trans (ay some (by kernel_rfl))⟩
 t0:=underlying0
 a0:=isAgg0
 z0:=sizeOf0
 v0:=zeroValue0
 t4:=underlying4
 a4:=isAgg4
 z4:=sizeOf4
 v4:=zeroValue4
 t23:=underlying96
 a23:=isAgg96
 z23:=sizeOf96
 v23:=zeroValue96
 t26:=underlying3
 a26:=isAgg3
 z26:=sizeOf3
 v26:=zeroValue3
 t27:=underlying118
 a27:=isAgg118
 z27:=sizeOf118
 v27:=zeroValue118
 t28:=underlying119
 a28:=isAgg119
 z28:=sizeOf119
 v28:=zeroValue119
 t33:=underlying172
 a33:=isAgg172
 z33:=sizeOf172
 v33:=zeroValue172
def acU:Go.Shelf.Ren:=⟨fun|6=>58|8=>109|9=>110|11=>165|n=>n,fun|0=>0|24=>52|26=>3|28=>119|33=>172|n=>n,fun n=>n⟩
theorem apA:Go.Proofs.SlLaysZI.n6 prog acU where
 mixed:=by kernel_rfl
 f6:=⟨f58.name,by kernel_rfl,func58.trans (ay some (by kernel_rfl))⟩
 f8:=⟨f109.name,by kernel_rfl,func109.trans (ay some (by kernel_rfl))⟩
 f11:=⟨f165.name,by kernel_rfl,func165.trans (ay some (by kernel_rfl))⟩
 t0:=underlying0
 a0:=isAgg0
 z0:=sizeOf0
 v0:=zeroValue0
 t24:=underlying52
 a24:=isAgg52
 z24:=sizeOf52
 v24:=zeroValue52
 t26:=underlying3
 a26:=isAgg3
 z26:=sizeOf3
 v26:=zeroValue3
 t28:=underlying119
 a28:=isAgg119
 z28:=sizeOf119
 v28:=zeroValue119
 i26:=by kernel_rfl
def apz:Go.Shelf.Ren:=⟨fun|5=>110|7=>166|8=>167|10=>207|11=>208|12=>209|13=>210|14=>211|15=>212|16=>118|17=>213|18=>214|19=>215|20=>216|30=>228|31=>229|32=>230|33=>231|34=>232|35=>173|40=>237|n=>n,fun|0=>0|3=>3|4=>4|5=>5|9=>9|22=>52|23=>52|25=>3|32=>65|35=>268|36=>269|41=>128|44=>275|46=>62|53=>293|57=>79|63=>302|64=>303|n=>n,fun n=>n⟩
theorem acT:Go.Proofs.SlLaysM.n5 prog apz where
 mixed:=by kernel_rfl
 f5:=⟨f110.name,by kernel_rfl,func110.trans (ay some (by kernel_rfl))⟩
 f7:=⟨f166.name,by kernel_rfl,func166.trans (ay some (by kernel_rfl))⟩
 f8:=func167.trans (ay some (by kernel_rfl))
 f10:=⟨f207.name,by kernel_rfl,func207.trans (ay some (by kernel_rfl))⟩
 f11:=⟨f208.name,by kernel_rfl,func208.trans (ay some (by kernel_rfl))⟩
 f12:=⟨f209.name,by kernel_rfl,func209.trans (ay some (by kernel_rfl))⟩
 f13:=⟨f210.name,by kernel_rfl,func210.trans (ay some (by kernel_rfl))⟩
 f14:=⟨f211.name,by kernel_rfl,func211.trans (ay some (by kernel_rfl))⟩
 f15:=⟨f212.name,by kernel_rfl,func212.trans (ay some (by kernel_rfl))⟩
 f16:=⟨f118.name,by kernel_rfl,func118.trans (ay some (by kernel_rfl))⟩
 f17:=⟨f213.name,by kernel_rfl,func213.trans (ay some (by kernel_rfl))⟩
 f18:=⟨f214.name,by kernel_rfl,func214.trans (ay some (by kernel_rfl))⟩
 f19:=func215.trans (ay some (by kernel_rfl))
 f20:=func216.trans (ay some (by kernel_rfl))
 f30:=⟨f228.name,by kernel_rfl,func228.trans (ay some (by kernel_rfl))⟩
 f31:=func229.trans (ay some (by kernel_rfl))
 f32:=func230.trans (ay some (by kernel_rfl))
 f33:=⟨f231.name,by kernel_rfl,func231.trans (ay some (by kernel_rfl))⟩
 f34:=⟨f232.name,by kernel_rfl,func232.trans (ay some (by kernel_rfl))⟩
 f35:=⟨f173.name,by kernel_rfl,func173.trans (ay some (by kernel_rfl))⟩
 f40:=⟨f237.name,by kernel_rfl,func237.trans (ay some (by kernel_rfl))⟩
 t0:=underlying0
 a0:=isAgg0
 z0:=sizeOf0
 v0:=zeroValue0
 t3:=underlying3
 a3:=isAgg3
 z3:=sizeOf3
 v3:=zeroValue3
 t4:=underlying4
 a4:=isAgg4
 z4:=sizeOf4
 v4:=zeroValue4
 t5:=underlying5
 a5:=isAgg5
 z5:=sizeOf5
 v5:=zeroValue5
 t9:=underlying9
 a9:=isAgg9
 z9:=sizeOf9
 v9:=zeroValue9
 t22:=underlying52
 a22:=isAgg52
 z22:=sizeOf52
 v22:=zeroValue52
 t23:=underlying52
 a23:=isAgg52
 z23:=sizeOf52
 v23:=zeroValue52
 t25:=underlying3
 a25:=isAgg3
 z25:=sizeOf3
 v25:=zeroValue3
 t32:=underlying65
 a32:=isAgg65
 z32:=sizeOf65
 v32:=zeroValue65
 t35:=underlying268
 a35:=isAgg268
 z35:=sizeOf268
 v35:=zeroValue268
 t36:=underlying269
 a36:=isAgg269
 z36:=sizeOf269
 v36:=zeroValue269
 t41:=underlying128
 a41:=isAgg128
 z41:=sizeOf128
 v41:=zeroValue128
 t44:=underlying275
 a44:=isAgg275
 z44:=sizeOf275
 v44:=zeroValue275
 t46:=underlying62
 a46:=isAgg62
 z46:=sizeOf62
 v46:=zeroValue62
 t53:=underlying293
 a53:=isAgg293
 z53:=sizeOf293
 v53:=zeroValue293
 t57:=underlying79
 a57:=isAgg79
 z57:=sizeOf79
 v57:=zeroValue79
 t63:=underlying302
 a63:=isAgg302
 z63:=sizeOf302
 v63:=zeroValue302
 t64:=underlying303
 a64:=isAgg303
 z64:=sizeOf303
 v64:=zeroValue303
end
section
open Go.RowKit Go.Maps
theorem ags:∀ args w,(callFunc 110 args).run prog w=.ok (.enter 110 args) w:=enters func110 rfl (by kernel_rfl)
theorem agt:∀ args w,(callFunc 111 args).run prog w=.ok (.enter 111 args) w:=enters func111 rfl (by kernel_rfl)
theorem akO {G:GH} {w:World} (h:Hold G w) {b:Nat} (hb:w.heap.size≤b):G b=none:=by
 cases hg:G b with
 | none=>rfl
 | some o=>exact absurd (lt_of_heap (h b o hg)) (by omega)
theorem Zj {G:GH} {w w':World} (h:Hold G w) (hb:Below w.heap.size w w') {b:Nat} {o:Obj} (hn:w.heap.size≤b) (ho:w'.heap[b]?=some o):Ext w.heap.size G (G.add b o) w':=by
 refine ⟨fun k o' hk=>GH.GI G (akO h hn) k o' hk,fun k o' hk=>?_,fun k o' hk=>?_⟩
 ·unfold GH.add at hk
  split at hk
  ·rename_i e;exact .inr (e ▸ hn)
  exact .inl hk
 unfold GH.add at hk
 split at hk
 ·rename_i e;rw [e,ho,hk]
 exact (hb.block k (lt_of_heap (h k o' hk))).trans (h k o' hk)
theorem abR (G:GH) (w0:World) (hG:Hold G w0) (mb:Option Nat) :
  Calls prog 59 #[.map mb] w0 (bV w0 G fun u G'=>∃ bx,u=.func (.func 111) #[] #[(aP bx 0)]∧G' bx=some (.cells #[.map mb] 96 (0,0))):=by
 have h:CallsIn Fence.wide 5 prog 59 #[.map mb] w0 fun e w'=>e=.returned (.func (.func 111) #[] #[(aP w0.heap.size 0)])∧w'=w0.alloc (.cells #[.map mb] 96):=AnyZI.keys_in aby Fence.wide 5 trivial rfl mb w0;refine ((callsIn_wide (n:=5)).1 h).mono ?_;rintro e w' ⟨rfl,rfl⟩;have hb:Below w0.heap.size w0 (w0.alloc (.cells #[.map mb] 96)):=(Below.refl _ w0).alloc (dB _) _;exact ⟨_,_,rfl,hb,Zj hG hb (dB _) (show (w0.heap.push _)[w0.heap.size]?=_ by simp),_,rfl,GH.GJ _ _ _⟩
def IB (_:aj):Option (DataW Unit × List MemPlace):=some (.nil,[])
theorem anv {w:World} {b clock:Nat} {es:Array MapEntry} {l:List Int} (hb:w.heap[b]?=some (.map es clock)) (hs:MapKept.Stamped es clock) (hk:es.toList.map (·.key)=l.map (Value.int .i64)) (hw:∀ k∈l,-9223372036854775808≤k∧k < 9223372036854775808) (hl:l.length≤4294967296) :
  ∃ D:DataW Unit,w.ownsMap prog 3 IB b l.length D∧(intKeys D).Perm l∧Maps.size D=l.length:=by
 have hlen:es.size=l.length:=by
  have:=ay List.length hk
  simpa using this
 have hml:maxLen=9223372036854775807:=rfl
 have hr:∀ x∈es.toList,∃ k∈l,Go.WideElems.rd prog 3 IB x=some (.int .i64 k,.nil):=by
  intro x hx
  have h1:x.key∈l.map (Value.int .i64):=by rw [← hk];exact List.mem_map_of_mem hx
  obtain ⟨k,h2,h3⟩:=List.mem_map.1 h1;obtain ⟨h4,h5⟩:=hw k h2
  have hwf:(Lit.int .i64 k).wf=true:=by
   show (decide (IntKind.i64.min≤k) && decide (k≤IntKind.i64.max))=true
   rw [show IntKind.i64.min=-9223372036854775808 by decide,show IntKind.i64.max=9223372036854775807 by decide]
   simp;omega
  refine ⟨k,h2,?_⟩
  unfold Go.WideElems.rd
  rw [← h3]
  have h6:keyOf prog 3 (.int .i64 k)=some (.int .i64 k):=by
   unfold keyOf mapKey
   rw [underlying3]
   simp [hwf]
  rw [h6]
  rfl
 refine ⟨_,⟨es,clock,hb,⟨by omega,hs,fun x hx=>?_⟩,by omega,rfl⟩,?_,?_⟩
 ·obtain ⟨k,-,h⟩:=hr x hx;exact ⟨_,h⟩
 ·show (((es.toList.map (Go.WideElems.rg prog 3 IB)).foldr DataW.insert []).map fun p=>Go.intOf p.1).Perm l
  refine ((Go.WideShapes.sorted_perm _).map _).trans ?_;rw [List.map_map]
  have h1:es.toList.map ((fun p:Lit × DataW Unit=>Go.intOf p.1) ∘ Go.WideElems.rg prog 3 IB)=l:=by
   have h2:es.toList.map ((fun p:Lit × DataW Unit=>Go.intOf p.1) ∘ Go.WideElems.rg prog 3 IB)=(es.toList.map (·.key)).map fun v=>match v with|.int _ a=>a|_=>0:=by
    rw [List.map_map];refine List.map_congr_left fun x hx=>?_;obtain ⟨k,hkl,h⟩:=hr x hx
    obtain ⟨k',h3,h4⟩:∃ k',Go.WideElems.rd prog 3 IB x=some (.int .i64 k',.nil)∧x.key=.int .i64 k':=by
     have h5:x.key∈l.map (Value.int .i64):=by rw [← hk];exact List.mem_map_of_mem hx
     obtain ⟨k',h6,h7⟩:=List.mem_map.1 h5;refine ⟨k,h,?_⟩;have h8:=Go.WideElems.rd_key h;obtain ⟨z,h9,h10,-⟩:=Maps.keyOf_i64 underlying3 h8
     cases h10
     exact h9
    simp only [Function.comp,Go.WideElems.rg_of h3,h4,Go.intOf]
   rw [h2,hk,List.map_map]
   simp [Function.comp_def]
  rw [h1]
 show ((es.toList.map (Go.WideElems.rg prog 3 IB)).foldr DataW.insert []).length=_
 rw [(Go.WideShapes.sorted_perm _).length_eq,bN,yT,hlen]
theorem apD (m:Nat):AnyZI.SortsIn prog acU Fence.wide m :=
  ⟨fun blk off cap ss W hH hblk hsz=>callsIn_wide.2 (AnyM.slices_Sort_int acT blk off cap ss W hH hblk hsz),
   fun p cap W=>callsIn_wide.2 (AnyM.slices_Sort_int_none acT p cap W)⟩
def sP (l:List Int):List Int:=l.mergeSort leI
theorem acV (G:GH) (w0:World) (hG:Hold G w0) (b bx clock:Nat) (es:Array MapEntry) (l:List Int) (hbx:G bx=some (.cells #[.map (some b)] 96 (0,0))) (hb:w0.heap[b]?=some (.map es clock)) (hs:MapKept.Stamped es clock) (hk:es.toList.map (·.key)=l.map (Value.int .i64))
  (hw:∀ k∈l,-9223372036854775808≤k∧k < 9223372036854775808) (hl:l.length≤4294967296) :
  Calls prog 58 #[.func (.func 111) #[] #[(aP bx 0)]] w0 (bV w0 G fun u G'=>aB G' (.sl 1 ((sP l).map fun k=>[li k])) u):=by
 obtain ⟨D0,hown,hperm,hsize⟩:=anv hb hs hk hw hl;have hml:maxLen=9223372036854775807:=rfl
 have hseq:SeqGives Fence.wide 2 prog 111 #[(aP bx 0)] encZ (fun ss=>ss.Perm (intKeys D0)) (Maps.size D0) w0 :=
  AnyZI.keys_gives (ρ:=abz) { aby with } Fence.wide _ trivial rfl (by omega) bx b l.length D0 _ (lt_of_heap (hG _ _ hbx)) (by simp [World.cell?,hG _ _ hbx]) hown
 have cS:=AnyZI.sorted_in apA Fence.wide 5 trivial trivial trivial trivial rfl (by omega) (apD _) ags 111 #[(aP bx 0)] trivial agt _ _ (by omega) (by omega) _ hseq
 change CallsIn _ _ prog 58 _ _ _ at cS
 refine ((callsIn_wide (n:=5)).1 cS).mono ?_;rintro e w' ⟨v,ss,rfl,hS,hrow,-,hbel⟩;have hS2:ss.mergeSort (fun x y=>decide (x≤y))=sP l:=mergeSort_of_perm_i (hS.trans hperm);rw [hS2] at hrow
 have hlen:ss.length=(sP l).length:=by rw [sP,List.length_mergeSort,hS.length_eq,hperm.length_eq]
 have oK:∀ (G1:GH) (xs:List Int),gP G1 1 (xs.map fun k=>[li k]) (xs.map encZ):=by
  intro G1 xs
  induction xs with
  | nil=>exact gP.nil
  | cons x xs ih =>
   have h8:=((gP.nil (G:=G1) (sz:=1)).snoc (q:=[li x]) (cs:=[encZ x]) (by simp [bM,aB,li,Value.oneCell']) rfl).append ih
   simpa using h8
 rcases hrow.2 with ⟨rfl,hz⟩|⟨gb,cap,cur,rfl,hbase,hgb,r1,r2,r3,r4⟩
 ·refine ⟨_,G,rfl,hbel,⟨fun _ _ h=>h,fun _ _ h=>.inl h,fun k o hk=>(hbel.block k (lt_of_heap (hG k o hk))).trans (hG k o hk)⟩,?_⟩;rw [List.eq_nil_of_length_eq_zero (by omega:(sP l).length=0)]
  simp only [aB]
  exact ⟨none,0,by simp,by simp,by simp [maxLen],fun h=>absurd rfl h⟩
 exact ⟨_,_,rfl,hbel,Zj hG hbel hbase hgb,aB.fC (GH.GJ G gb _) (by simp [hlen]) r1 r2 (by simpa using r4) (oK _ _)⟩
end
section
open Go.RowKit
section
variable {P:Program} {N:Nat} {D:List Deferred} {w0 w w':World} {F:Nat→Prop} {G0 G G':GH} {L L' Li Lo:OL} {T:List (Nat × aj)} {a a':Act} {Q:Exit→Act→World→Prop}
theorem St.cast (h:St N D w0 F G0 G L T a w) (e:L=L'):St N D w0 F G0 G L' T a w:=e ▸ h
theorem St.assoc {A B C:OL} (h:St N D w0 F G0 G ((A++B)++C) T a w):St N D w0 F G0 G (A++(B++C)) T a w:=h.cast (iQ _ _ _)
theorem St.un {A B C:OL} (h:St N D w0 F G0 G (A++(B++C)) T a w):St N D w0 F G0 G ((A++B)++C) T a w:=h.cast (iQ _ _ _).symm
theorem St.Vq {A B:OL} (h:St N D w0 F G0 G (A++B) T a w):St N D w0 F G0 G (A++(B++[])) T a w:=h.cast (by rw [mW])
theorem Dw {ι κ:Type} {Lc:OL} {Bn:Operand} {ps:List Nat} {assign body:Code} {gf:FuncId} {caps:List aj} {xs:List AP} {Gi:GH}
  (Lv:Nat→ι→OL) (Lt:Nat→ι→OL) (inv:Nat→ι→GH→Prop) (cx:κ→Code) (Lx Gx:κ→OL) (BJ:κ→GH→Prop) (i0:ι)
  (H:St N D w0 F G0 G (Lc++Lv 0 i0++Lt 0 i0) T a w) (hg:ev T Bn=some (.func (.func gf) #[] caps.toArray)) (en:∀ args w,(callFunc gf args).run P w=.ok (.enter gf args) w) (hit:Iter P Gi (.func (.func gf) #[] caps.toArray) xs) (hGi:∀ b o,Gi b=some o→G b=some o)
  (hps:ps.all (Nat.blt · N)=true) (hlen:∀ k args g,xH xs k args g→args.length=ps.length) (hinv:∀ k i (G G':GH),(∀ b o,G b=some o→G' b=some o)→inv k i G→inv k i G') (Ur:∀ x (G G':GH),(∀ b o,G b=some o→G' b=some o)→BJ x G→BJ x G') (h0:inv 0 i0 G)
  (round:∀ (l:Nat) (xg uw:Obj) (bk:OL) (k:Nat) (args:List aj) (i:ι) (G1:GH) (w1:World) (F1:Nat→Prop) (B1:Code→Exit→Act→World→Prop) (a1:Act),xH xs k args G1→(∀ b o,G b=some o→G1 b=some o)→inv k i G1 →
   (∀ T' G2 L2 a2 w2 c,St N [] w1 F1 G1 G2 ((l,xg) :: L2) T' a2 w2→(∀ w3,St N [] w1 F1 G1 G2 ((l,uw) :: L2) T' a2 w3→WP (some l) P c (B1 c) a2 w3)→Exit.then (fun a2 w2=>∃ w3,(Instr.beginRound l).run P w2=.ok () w3∧c.wpIn (FW (some l)) 0 P (B1 c) a2 w3) (fun _ _ _=>False) .normal a2 w2) →
   (∀ i' T' G2 a2 w2 c,St N [] w1 F1 G1 G2 ((l,uw) :: (Lc++Lv (k+1) i'++(bk++Lt (k+1) i'))) T' a2 w2→inv (k+1) i' G2→B1 c .normal a2 w2) →
   (∀ x T' G2 a2 w2 c,St N [] w1 F1 G1 G2 ((l,uw) :: (Lc++Lx x++(bk++Gx x))) T' a2 w2→BJ x G2→(cx x=.ret→B1 c .ret a2 w2)∧∀ n,cx x=.exit n→B1 c (.exit n) a2 w2) →
   St N [] w1 F1 G1 G1 ((l,xg) :: (Lc++Lv k i++(bk++Lt k i))) (tu ps args T) a1 w1 →
   WP (some l) P assign (Exit.then (fun a2 w2=>∃ w3,(Instr.beginRound l).run P w2=.ok () w3∧body.wpIn (FW (some l)) 0 P (B1 body) a2 w3) (fun _ _ _=>False)) a1 w1)
  (hdone:∀ Dk i G1 a1 w1,(∀ b o,G b=some o→G1 b=some o)→inv xs.length i G1→St N ({ target:=.collected Dk,args:=#[] } :: D) w0 F G0 G1 ((Dk,.deferred (some [])) :: (Lc++Lv xs.length i++Lt xs.length i)) T a1 w1→Q .normal a1 w1)
  (hstop:∀ Dk x G1 a1 w1,(∀ b o,G b=some o→G1 b=some o)→BJ x G1→St N ({ target:=.collected Dk,args:=#[] } :: D) w0 F G0 G1 ((Dk,.deferred (some [])) :: (Lc++Lx x++Gx x)) T a1 w1→WP none P (cx x) Q a1 w1) :
  WP none P (.rangeFunc Bn ps.toArray assign body) Q a w:=by
 refine afi (J:=fun k g L=>∃ i,L=Lc++Lv k i++Lt k i∧inv k i g) (Jx:=fun c g L=>∃ x,c=cx x∧L=Lc++Lx x++Gx x∧BJ x g) H hg en hit hGi hps hlen (fun k G G' L hm ⟨i,e,h⟩=>⟨i,e,hinv k i G G' hm h⟩) (fun c G G' L hm ⟨x,e1,e2,h⟩=>⟨x,e1,e2,Ur x G G' hm h⟩) ⟨i0,rfl,h0⟩ ?_ ?_ ?_
 ·rintro l q bk k args G1 L1 w1 a1 hk hm ⟨i,rfl,hi⟩ H1
  have pm:∀ A B:OL,(bk++(A++B)).Perm (A++(bk++B)):=fun A B=>by
   rw [← iQ,← iQ]
   exact List.Perm.append_right B qZ
  refine round l (q.at .ready none) (q.at .busy none) bk k args i G1 w1 _ (fun _=>roundPost P l _) a1 hk hm hi ?_ ?_ ?_ (H1.perm (List.Perm.cons _ (pm _ _)))
  ·intro T' G2 L2 a2 w2 c H2 h
   exact Yg H2 h
  ·intro i' T' G2 a2 w2 c H2 h2
   exact Kj none (H2.perm (List.Perm.cons _ (pm _ _).symm)) ⟨_,rfl,i',rfl,h2⟩
  ·intro x T' G2 a2 w2 c H2 h2
   have H3:=H2.perm (List.Perm.cons _ (pm _ _).symm)
   refine ⟨fun e=>?_,fun n e=>?_⟩
   ·exact Kj (some .ret) H3 ⟨_,_,rfl,x,e.symm,rfl,h2⟩
   ·exact Kj (some (.exit n)) H3 ⟨_,_,rfl,x,e.symm,rfl,h2⟩
 ·rintro Dk G1 L1 a1 w1 hm ⟨i,rfl,hi⟩ H1
  exact hdone Dk i G1 a1 w1 hm hi H1
 ·rintro Dk c G1 L1 a1 w1 hm ⟨x,rfl,rfl,hx⟩ H1
  exact hstop Dk x G1 a1 w1 hm hx H1
def J9 (ds:List Nat):List Deferred:=ds.map fun b=>{ target:=.collected b,args:=#[] }
def mP (ds:List Nat):OL:=ds.map fun b=>(b,.deferred (some []))
theorem NS {r:Option Nat} {ι:Type} {c:Code} {Tc:List (Nat × aj)} {Lc:List (Nat × Obj)} (Dv:ι→List Deferred) (Tv:ι→List (Nat × aj)) (Lv:ι→List (Nat × Obj)) (Gv:ι→GH) (Pr:ι→Prop) (m:ι→Nat) (i0:ι)
  (H:St N (Dv i0) w0 F G0 (Gv i0) (Lc++Lv i0) (Tv i0++Tc) a w) (hP:Pr i0)
  (round:∀ i a w,Pr i→St N (Dv i) w0 F G0 (Gv i) (Lc++Lv i) (Tv i++Tc) a w →
   WP r P c (Exit.then (fun a' w'=>∃ i',(St N (Dv i') w0 F G0 (Gv i') (Lc++Lv i') (Tv i'++Tc) a' w'∧Pr i')∧m i' < m i) Q) a w):WP r P (.loop c) Q a w :=
 Yj (fun i a w=>St N (Dv i) w0 F G0 (Gv i) (Lc++Lv i) (Tv i++Tc) a w∧Pr i) m i0 ⟨H,hP⟩ fun i a w hI=>round i a w hI.2 hI.1
theorem Ip {ι:Type} {Dv:ι→List Deferred} {Tc:List (Nat × aj)} {Lc:List (Nat × Obj)} {Tv:ι→List (Nat × aj)} {Lv:ι→List (Nat × Obj)} {Gv:ι→GH} {Pr:ι→Prop} {m:ι→Nat} {i:ι} (i':ι)
  (H:St N (Dv i') w0 F G0 (Gv i') (Lc++Lv i') (Tv i'++Tc) a w) (hP:Pr i') (hm:m i' < m i) :
  ∃ i',(St N (Dv i') w0 F G0 (Gv i') (Lc++Lv i') (Tv i'++Tc) a w∧Pr i')∧m i' < m i:=⟨i',⟨H,hP⟩,hm⟩
theorem Ao {fn:Func} {R:Ending→World→Prop} {Lh Lt:OL}:∀ (ds:List Nat) {a:Act} {w:World},St N (J9 ds) w0 F G0 G (Lh++(mP ds++Lt)) T a w →
  (∀ a' w',St N [] w0 F G0 G (Lh++Lt) T a' w'→bodyPostM (FW none) 0 P fn R .ret a' w')→bodyPostM (FW none) 0 P fn R .ret a w∧bodyPostM (FW none) 0 P fn R .normal a w
 | [],a,w,H,k=>⟨k a w H,k a w H⟩
 | b :: ds,a,w,H,k=>by
  refine Am (b:=b) (D:=J9 ds) H Lh.length (by rw [Cg (dB _),Nat.sub_self];rfl) fun a' w' H'=>?_
  refine (Ao ds (Lh:=Lh) (Lt:=Lt) (H'.cast ?_) k).1
  rw [List.eraseIdx_append_of_length_le (dB _),Nat.sub_self];rfl
end
end
section
open Go.RowKit
def n1 (x:aC):Nat:=if AJ x=0 then gI x else 0
theorem Py (x:aC):uO [x]=n1 x:=by
 simp only [uO,xU,n1,uT,List.all_cons,List.all_nil,Bool.and_true,qY]
 split <;> simp_all
theorem aB.len {G:GH} {sz:Nat} {rows:List (List Dat)} {A:Option Addr} {n c:Nat} (h:aB G (.sl sz rows) (.slice A n c)):n=rows.length:=h.cells.1
theorem aB.at_ {G:GH} {sz:Nat} {rows:List (List Dat)} {A:Option Addr} {n c:Nat} (h:aB G (.sl sz rows) (.slice A n c)):∀ k r,rows[k]?=some r→∃ b o cs,A=some ⟨b,o,none⟩∧cs.length=sz∧(∀ j u,cs[j]?=some u→aF G b (o+k*sz+j)=some u)∧bM G r cs:=by
 obtain ⟨A2,c2,e,_,_,hg⟩:=h.slice
 cases e;exact hg
theorem CW {G:GH} {l:List bH} {A:Option Addr} {k:Nat} (hk:k < l.length) (hg:∀ k r,(l.map bH.dat)[k]?=some r→∃ b o cs,A=some ⟨b,o,none⟩∧cs.length=6∧(∀ j u,cs[j]?=some u→aF G b (o+k*6+j)=some u)∧bM G r cs) :
  ∃ b o pA pn pc dA dn dc yA yn yc cA cn cc,A=some ⟨b,o,none⟩∧(∀ j u,[.slice pA pn pc,vi l[k].head.marks.ins,vi l[k].head.marks.move,.slice dA dn dc,.slice yA yn yc,.slice cA cn cc][j]?=some u→aF G b (o+k*6+j)=some u) ∧
   nS G l[k].head (.slice pA pn pc) (.slice dA dn dc) (.slice yA yn yc)∧aB G (.sl 7 (l[k].cells.map bq.dat)) (.slice cA cn cc):=by
 obtain ⟨b,o,cs,h1,h2,h3,h4⟩:=hg k l[k].dat (by simp [hk]);obtain ⟨pA,pn,pc,dA,dn,dc,yA,yn,yc,cA,cn,cc,rfl,h5,h6⟩:=h4.row;exact ⟨b,o,pA,pn,pc,dA,dn,dc,yA,yn,yc,cA,cn,cc,h1,h3,h5,h6⟩
theorem AY {G:GH} {l:List bq} {A:Option Addr} {k:Nat} (hk:k < l.length) (hg:∀ k r,(l.map bq.dat)[k]?=some r→∃ b o cs,A=some ⟨b,o,none⟩∧cs.length=7∧(∀ j u,cs[j]?=some u→aF G b (o+k*7+j)=some u)∧bM G r cs) :
  ∃ b o pA pn pc dA dn dc yA yn yc fA fn fc,A=some ⟨b,o,none⟩∧(∀ j u,[vi l[k].id,.slice pA pn pc,vi l[k].head.marks.ins,vi l[k].head.marks.move,.slice dA dn dc,.slice yA yn yc,.slice fA fn fc][j]?=some u→aF G b (o+k*7+j)=some u) ∧
   nS G l[k].head (.slice pA pn pc) (.slice dA dn dc) (.slice yA yn yc)∧aB G (.sl 11 (l[k].flow.map aC.dat)) (.slice fA fn fc):=by
 obtain ⟨b,o,cs,h1,h2,h3,h4⟩:=hg k l[k].dat (by simp [hk]);obtain ⟨pA,pn,pc,dA,dn,dc,yA,yn,yc,fA,fn,fc,rfl,h5,h6⟩:=h4.cell;exact ⟨b,o,pA,pn,pc,dA,dn,dc,yA,yn,yc,fA,fn,fc,h1,h3,h5,h6⟩
end
section
open Go.RowKit
structure jP where
 (f p d y r s1 s2 s3 s4:Option Addr × Nat × Nat)
 (ins move:Int)
abbrev bg (x:Option Addr × Nat × Nat):aj:=.slice x.1 x.2.1 x.2.2
abbrev jP.cells (D:jP):List aj:=[bg D.f,bg D.p,vi D.ins,vi D.move,bg D.d,bg D.y,bg D.r,bg D.s1,bg D.s2,bg D.s3,bg D.s4]
abbrev jP.val (D:jP):aj:=.agg D.cells.toArray
end
section
open Go.RowKit
theorem RH:∀ args w,(callFunc 161 args).run prog w=.ok (.enter 161 args) w:=enters func161 rfl (by kernel_rfl)
theorem Qp:Ty prog 90 3 16 [.bool false,.bool false,.int .i64 0] true:=⟨by kernel_rfl,by kernel_rfl⟩
theorem apI:ug prog 92 [(0,1),(1,3)] [.slice none 0 0,.bool false,.bool false,.int .i64 0]:=⟨by kernel_rfl,by kernel_rfl⟩
theorem vE:dL prog 68 2 2:=⟨by kernel_rfl⟩
theorem LX:dL prog 90 2 2:=⟨by kernel_rfl⟩
theorem FT:ug prog 90 [(0,1),(1,1),(2,1)] [.bool false,.bool false,.int .i64 0]:=⟨by kernel_rfl,by kernel_rfl⟩
theorem Sm:dL prog 90 1 1:=⟨by kernel_rfl⟩
theorem sS:Ty prog 4 1 1 [.bool false] false:=⟨by kernel_rfl,by kernel_rfl⟩
theorem Bf:dL prog 38 0 0:=⟨by kernel_rfl⟩
theorem agl:∀ args w,(callFunc 100 args).run prog w=.ok (.enter 100 args) w:=enters func100 rfl (by kernel_rfl)
theorem RG:∀ args w,(callFunc 160 args).run prog w=.ok (.enter 160 args) w:=enters func160 rfl (by kernel_rfl)
structure lu where
 id:Int
 items:List aC
 body:Bool
 note:Bool
 tables:Int
mutual
def zP (note:Bool) (t:Int):aC→List lu
 | .mk k _ i _ _ f r=>if k=6 then ⟨i,f,false,true,t⟩ :: jO true t f else if k=7 then pR note t r else []
def jO (note:Bool) (t:Int):List aC→List lu
 | []=>[]
 | x :: l=>zP note t x++jO note t l
def pR (note:Bool) (t:Int):List bH→List lu
 | []=>[]
 | r :: l=>zQ note t r++pR note t l
def zQ (note:Bool) (t:Int):bH→List lu
 | .mk _ cs=>qz note t cs
def qz (note:Bool) (t:Int):List bq→List lu
 | []=>[]
 | c :: l=>zO note t c++qz note t l
def zO (note:Bool) (t:Int):bq→List lu
 | .mk i _ f=>⟨i,f,false,note,t+1⟩ :: jO note (t+1) f
end
theorem adO (note:Bool) (t:Int) (x:aC):zP note t x=if x.kind=6 then ⟨x.id,x.flow,false,true,t⟩ :: jO true t x.flow else if x.kind=7 then pR note t x.rows else []:=by cases x;rw [zP];rfl
theorem adP (note:Bool) (t:Int) (x:bH):zQ note t x=qz note t x.cells:=by cases x;rw [zQ];rfl
theorem adL (note:Bool) (t:Int) (x:bq):zO note t x=⟨x.id,x.flow,false,note,t+1⟩ :: jO note (t+1) x.flow:=by cases x;rw [zO];rfl
def DK (a:lu):AP:=fun args g=>∃ v,args=[vi a.id,.agg #[v,.bool a.body,.bool a.note,vi a.tables]]∧aB g (.sl 11 (a.items.map aC.dat)) v
def QY (n:Nat):Prop:=∀ (fv:aj) (Gi:GH) (xs:List AP) (J:Nat→GH→OL→Prop) (Jx:GH→OL→Prop) (G:GH) (L:OL) (w0:World) (j:Nat) (l:List aC) (id:Int) (body note:Bool) (t:Int) (v:aj),
 (∀ b o,Gi b=some o→G b=some o)→EA prog fv Gi xs J Jx→EF J→GD Jx→J j G L→iT G L w0→aB G (.sl 11 (l.map aC.dat)) v→bB l < n→0≤t→t+bB l≤4294967296→(∀ i a,(⟨id,l,body,note,t⟩ :: jO note t l)[i]?=some a→xs[j+i]?=some (DK a)) →
 Calls prog 161 #[vi id,v,.agg #[.bool body,.bool note,vi t],fv] w0 (iE w0 G L fun u G' L'=>∃ b,u=.bool b∧(b=true→J (j+((jO note t l).length+1)) G' L')∧(b=false→Jx G' L'))
set_option maxHeartbeats 1000000 in
theorem aqz {n:Nat} (ih:QY n) (hn:n≤4294967296):QY (n+1):=by
 intro fv Gi xs J Jx G L w0 j0 l id body note t v hGi hcb mM hJx hJ0 hO hv hz ht0 ht1 hx0;obtain ⟨A,c,rfl,hc1,hc2,hg⟩:=hv.slice;rw [bN] at *;have hll:=Dg l;have UG:Now xs DK J (j0+((jO note t l).length+1)) j0 (⟨id,l,body,note,t⟩ :: jO note t l) G L:=⟨hJ0,hx0,rfl⟩;refine kS (N:=74) (T:=[(0,_),(1,_),(2,_),(3,_)]) func161 rfl ntmps161 rfl rfl hO ?_;intro a H;refine cO (fun _ K1=>?_);refine fD (cs:=[_,_,_]) H wn rfl rfl rfl ?_;clear H;intro b6 a w hb6 H;refine kH H (ak K1 rfl (SQ fun _ K2=>SR fun _ K3=>Rm rfl (Rm rfl (Rm rfl ?_))));clear H K1;intro a H;refine bK Qp (cs:=[_,_,_]) H wn rfl rfl (H.hp.fG 0 rfl rfl) rfl ?_;clear H;intro a H;refine mq apI [_,_,_,_] H wn rfl rfl rfl rfl ?_;clear H;intro a H;refine rP (Li:=[_]) (L:=L) H wn rfl rfl (hcb _ _ _ _ _ ⟨_,UG.head,_,rfl,hv⟩ hGi UG.now (Hp.owns (Li:=[_]) H.hp)) rfl ?_;clear H;rintro v20 IX KV a w ⟨b20,rfl,hb1,hb2⟩ JK H;refine kH H (Rn rfl (Kz K3 (Cd rfl ?_ ?_))) <;> clear H K3
 ·intro h21 a H
  try have ou:=dT h21
  refine kP H (SR fun _ K4=>ak K4 rfl ?_);clear H K4;intro a H;refine lr H results161 rfl ?_
  first
   | exact H.hp.bU (L':=KV) (by repeat (first|exact cu _|apply List.Sublist.cons)) ⟨_,rfl,fun e=>(by cases e),fun _=>hb2 (by simpa using h21)⟩
   | exact H.hp.bU (L':=Gp) (by repeat (first|exact cu _|apply List.Sublist.cons)) ⟨_,rfl,fun e=>(by cases e),fun _=>hb4 (by simpa using mY)⟩
   | exact H.hp.bU (L':=KY) (by repeat (first|exact cu _|apply List.Sublist.cons)) ⟨_,rfl,fun e=>(by cases e),fun _=>hb6 (by simpa using oI)⟩
   | exact H.hp.bU (L':=Lt) (by repeat (first|exact cu _|apply List.Sublist.cons)) ⟨_,rfl,fun _=>(by rw [eU (by omega),jO] at bP;have:=bP.len;simp only [List.length_nil,nT] at this;rw [← this];exact bP.now),fun e=>(by cases e)⟩
 intro h21 a H
 try have ou:=dF h21
 refine kP H (Kc K2 (SQ fun _ K5=>SR fun _ K6=>Rm rfl (Rl jM rfl (Rm rfl (Kz K6 (SB ?_))))));clear H K2 K6;intro a H;skip;refine dV (ι:=Nat × Nat × OL × GH) (Tc:=[(3,_),(6,_),(22,_),(23,_)]) (Lc:=[(_,_)]) (fun gh=>[(24,vi gh.1)]) (fun gh=>[]++gh.2.2.1) (fun gh=>gh.2.2.2) (fun gh=>gh.1≤l.length∧(∀ b o,G b=some o→gh.2.2.2 b=some o)∧Now xs DK J (j0+((jO note t l).length+1)) gh.2.1 (jO note t (l.drop gh.1)) gh.2.2.2 gh.2.2.1) (fun gh=>l.length - gh.1) ((0,j0+1,KV,IX)) (by exact (H).sub ⟨rfl,rfl,rfl,rfl,rfl,av⟩) ?_ ?_
 ·exact ⟨by omega,JK,UG.step (hb1 (by simpa using h21))⟩
 clear H;rintro ⟨k,j1,Lt,g⟩ a w hI H;dsimp only at hI H;obtain ⟨hk,hgm,bP⟩:=hI;dsimp only [lca,aO] at H;refine kP H (SR fun _ K7=>Rc rfl (Kz K7 (SQ fun _ K8=>Cd rfl ?_ ?_))) <;> clear H K7
 ·intro fM a H
  try have p25:=dT fM
  have hk2:k < l.length:=by omega
  obtain ⟨b,o,pA,pn,pc,dA,dn,dc,yA,yn,yc,fA,fn,fc,rA,rn,rc,rfl,hrow,hhd,hfl,hrw⟩:=Bl hk2 hg;replace hrow:=fun j u hj=>aJ hgm (hrow j u hj);have hrn:=hrw.len;rw [bN] at hrn;subst hrn;have hrs:=Dh l[k].rows;have hsz1:=WQ hk2;rw [jw hk2] at bP
  simp only [jO,adO] at bP
  refine kP H (Kc K8 (SQ fun _ K9=>SB (SR fun _ aU=>Ri jM eH rfl rfl ?_)));clear H K8;intro a H;refine bK eH (cs:=[_,_,_,_,_,_,_,_,_,_,_]) H wn rfl rfl (fun j v hj=>H.hp.aF (hrow j v hj)) rfl ?_;clear H;intro a H;refine dY eH H wn rfl ?_;clear H;intro b10 a w JE H;refine bT eH 0 (vs:=[_,_,_,_,_,_,_,_,_,_,_]) _ H wn rfl rfl rfl rfl rfl rfl rfl rfl ?_;clear H;intro w H;dsimp only [List.set,setRow] at H;refine aU _ _ ?_;clear aU;refine kP H (SR fun _ bD=>aR gH aD 0 rfl rfl (Kz bD (SB (SR fun _ bE=>Rc rfl (ak bE rfl (Cd rfl ?_ ?_)))))) <;> clear H bD bE
  ·intro oo a H
   try have p30:=dT oo
   rw [au p30] at bP;refine kP H (SR fun _ bQ=>aR vE aD 0 rfl rfl (aR Bh jy 0 rfl rfl (aR LX aD 1 rfl rfl ?_)));clear H;intro a H;refine mq FT [_,_,_] H wn rfl rfl rfl rfl ?_;clear H;intro a H;refine kH H (Rm rfl ?_);clear H;intro a H;refine gW RH (Li:=[_,_]) (L:=Lt) H wn rfl (ih fv Gi xs J Jx _ _ _ j1 l[k].flow l[k].id false true t _ (fun b o h=>hgm b o (hGi b o h)) hcb mM hJx bP.now (Hp.owns (Li:=[_,_]) H.hp) (hfl.mono hgm) (by omega) ht0 (by omega) bP.part) rfl ?_;clear H;rintro v40 KJ Gp a w ⟨b40,rfl,hb3,hb4⟩ D9 H;refine kH H (Rn rfl (Kz bQ (Cd rfl ?_ ?_))) <;> clear H bQ
   ·intro mY a H
    try have p41:=dT mY
    refine kP H (SR fun _ bR=>ak bR rfl ?_);clear H bR;intro a H;refine lr H results161 rfl ?_
    first
     | exact H.hp.bU (L':=KV) (by repeat (first|exact cu _|apply List.Sublist.cons)) ⟨_,rfl,fun e=>(by cases e),fun _=>hb2 (by simpa using h21)⟩
     | exact H.hp.bU (L':=Gp) (by repeat (first|exact cu _|apply List.Sublist.cons)) ⟨_,rfl,fun e=>(by cases e),fun _=>hb4 (by simpa using mY)⟩
     | exact H.hp.bU (L':=KY) (by repeat (first|exact cu _|apply List.Sublist.cons)) ⟨_,rfl,fun e=>(by cases e),fun _=>hb6 (by simpa using oI)⟩
     | exact H.hp.bU (L':=Lt) (by repeat (first|exact cu _|apply List.Sublist.cons)) ⟨_,rfl,fun _=>(by rw [eU (by omega),jO] at bP;have:=bP.len;simp only [List.length_nil,nT] at this;rw [← this];exact bP.now),fun e=>(by cases e)⟩
   intro mY a H
   try have p41:=dF mY
   refine kP H (Kc K9 (SC (Rd rfl (Rm rfl ?_))));clear H K9;intro a H;refine aH ?_;refine cB ((k+1,j1+((jO true t l[k].flow).length+1),Gp,KJ)) (by exact (H.dx (Pl:=[_,_]) (bZ:=[_]) [1] (by decide) rfl).sub ⟨rfl,rfl,rfl,rfl,rfl,av⟩) ?_ ?_
   ·(try dsimp only);exact ⟨by omega,fun b o h=>D9 b o (hgm b o h),bP.jump (hb3 (by simpa using mY))⟩
   first|omega|(dsimp only;omega)
  intro oo a H
  try have p30:=dF oo
  refine kP H (SR fun _ bW=>Rc rfl (ak bW rfl (Cd rfl ?_ ?_))) <;> clear H bW
  ·intro Bt a H
   try have p42:=dT Bt
   rw [ah p30,au p42] at bP;refine kP H (SR fun _ cK=>aR qH qR 0 rfl rfl (Rl jG rfl (Rm rfl (Kz cK (SB ?_)))));clear H cK;intro a H;skip;refine dV (ι:=Nat × Nat × OL × GH) (Tc:=[(3,_),(6,_),(22,_),(23,_),(24,_),(45,_),(46,_)]) (Lc:=[(_,_),(_,_)]) (fun gh=>[(47,vi gh.1)]) (fun gh=>[]++gh.2.2.1) (fun gh=>gh.2.2.2) (fun gh=>gh.1≤l[k].rows.length∧(∀ b o,G b=some o→gh.2.2.2 b=some o)∧Now xs DK J (j0+((jO note t l).length+1)) gh.2.1 (pR note t (l[k].rows.drop gh.1)++jO note t (l.drop (k+1))) gh.2.2.2 gh.2.2.1) (fun gh=>l[k].rows.length - gh.1) ((0,j1,Lt,g)) (by exact (H).sub ⟨rfl,rfl,rfl,rfl,rfl,rfl,rfl,rfl,av⟩) ?_ ?_
   ·exact ⟨by omega,hgm,bP⟩
   clear H;rintro ⟨rk,j3,Lt3,g3⟩ a w hI H;dsimp only at hI H;obtain ⟨JU,rG,rM⟩:=hI;dsimp only [lca,aO] at H;refine kP H (SR fun _ bY=>Rc rfl (Kz bY (SQ fun _ dG=>Cd rfl ?_ ?_))) <;> clear H bY
   ·intro h48 a H
    try have p48:=dT h48
    have hk3:rk < l[k].rows.length:=by omega
    obtain ⟨b2,o2,qA,qn,qc,eA,en,ec,zA,zn,zc,cA,cn,cc,rfl,hrow,vN,hcl⟩:=CW hk3 hrw.at_;replace hrow:=fun j u hj=>aJ rG (hrow j u hj);have hcn:=hcl.len;rw [bN] at hcn;subst hcn;have hsz2:=IU hk3;have hcs:=Dc l[k].rows[rk].cells;rw [jw hk3] at rM
    simp only [pR,adP,iQ] at rM
    refine kP H (Kc dG (SQ fun _ dN=>SB (SR fun _ dH=>Ri jG jJ rfl rfl ?_)));clear H dG;intro a H;refine bK jJ (cs:=[_,_,_,_,_,_]) H wn rfl rfl (fun j v hj=>H.hp.aF (hrow j v hj)) rfl ?_;clear H;intro a H;refine dY jJ H wn rfl ?_;clear H;intro b12 a w D5 H;refine bT jJ 0 (vs:=[_,_,_,_,_,_]) _ H wn rfl rfl rfl rfl rfl rfl rfl rfl ?_;clear H;intro w H;dsimp only [List.set,setRow] at H;refine dH _ _ ?_;clear dH;refine kP H (SR fun _ dP=>aR qh qy 0 rfl rfl (Rl lQ rfl (Rm rfl (Kz dP (SB ?_)))));clear H dP;intro a H;skip;refine dV (ι:=Nat × Nat × OL × GH) (Tc:=[(3,_),(6,_),(22,_),(23,_),(24,_),(45,_),(46,_),(47,_),(52,_),(53,_)]) (Lc:=[(_,_),(_,_),(_,_)]) (fun gh=>[(54,vi gh.1)]) (fun gh=>[]++gh.2.2.1) (fun gh=>gh.2.2.2) (fun gh=>gh.1≤l[k].rows[rk].cells.length∧(∀ b o,G b=some o→gh.2.2.2 b=some o)∧Now xs DK J (j0+((jO note t l).length+1)) gh.2.1 (qz note t (l[k].rows[rk].cells.drop gh.1)++(pR note t (l[k].rows.drop (rk+1))++jO note t (l.drop (k+1)))) gh.2.2.2 gh.2.2.1) (fun gh=>l[k].rows[rk].cells.length - gh.1) ((0,j3,Lt3,g3)) (by exact (H).sub ⟨rfl,rfl,rfl,rfl,rfl,rfl,rfl,rfl,rfl,rfl,rfl,av⟩) ?_ ?_
    ·exact ⟨by omega,rG,rM⟩
    clear H;rintro ⟨ck,j4,Lt4,g4⟩ a w hI H;dsimp only at hI H;obtain ⟨hck,vL,pK⟩:=hI;dsimp only [lca,aO] at H;refine kP H (SR fun _ eT=>Rc rfl (Kz eT (SQ fun _ fP=>Cd rfl ?_ ?_))) <;> clear H eT
    ·intro nM a H
     try have p55:=dT nM
     have hk4:ck < l[k].rows[rk].cells.length:=by omega
     obtain ⟨b3,o3,sA,sn,sc,tA,tn,tc,uA,un,uc,gA,gn,gc,rfl,hrow,hch,hcf⟩:=AY hk4 hcl.at_;replace hrow:=fun j u hj=>aJ vL (hrow j u hj);have FE:=KF hk4;rw [jw hk4] at pK
     simp only [qz,adL,iQ] at pK
     refine kP H (Kc fP (SQ fun _ gq=>SB (SR fun _ gG=>Ri lQ jK rfl rfl ?_)));clear H fP;intro a H;refine bK jK (cs:=[_,_,_,_,_,_,_]) H wn rfl rfl (fun j v hj=>H.hp.aF (hrow j v hj)) rfl ?_;clear H;intro a H;refine dY jK H wn rfl ?_;clear H;intro b14 a w TV H;refine bT jK 0 (vs:=[_,_,_,_,_,_,_]) _ H wn rfl rfl rfl rfl rfl rfl rfl rfl ?_;clear H;intro w H;dsimp only [List.set,setRow] at H;refine gG _ _ ?_;clear gG;refine kP H (SR fun _ iP=>aR DC aD 0 rfl rfl (aR Cn jy 0 rfl rfl (aR Sm sS 3 rfl rfl (aR LX aD 3 rfl rfl (Rd rfl ?_)))));clear H;intro a H;refine mq FT [_,_,_] H wn rfl rfl rfl rfl ?_;clear H;intro a H;refine kH H (Rm rfl ?_);clear H;intro a H;refine gW RH (Li:=[_,_,_,_]) (L:=Lt4) H wn rfl (ih fv Gi xs J Jx _ _ _ j4 l[k].rows[rk].cells[ck].flow l[k].rows[rk].cells[ck].id false note (t+1) _ (fun b o h=>vL b o (hGi b o h)) hcb mM hJx pK.now (Hp.owns (Li:=[_,_,_,_]) H.hp) (hcf.mono vL) (by omega) (by omega) (by omega) pK.part) rfl ?_;clear H;rintro v69 G69 KY a w ⟨b69,rfl,hb5,hb6⟩ akB H;refine kH H (Rn rfl (Kz iP (Cd rfl ?_ ?_))) <;> clear H iP
     ·intro oI a H
      try have p70:=dT oI
      refine kP H (SR fun _ jm=>ak jm rfl ?_);clear H jm;intro a H;refine lr H results161 rfl ?_
      first
       | exact H.hp.bU (L':=KV) (by repeat (first|exact cu _|apply List.Sublist.cons)) ⟨_,rfl,fun e=>(by cases e),fun _=>hb2 (by simpa using h21)⟩
       | exact H.hp.bU (L':=Gp) (by repeat (first|exact cu _|apply List.Sublist.cons)) ⟨_,rfl,fun e=>(by cases e),fun _=>hb4 (by simpa using mY)⟩
       | exact H.hp.bU (L':=KY) (by repeat (first|exact cu _|apply List.Sublist.cons)) ⟨_,rfl,fun e=>(by cases e),fun _=>hb6 (by simpa using oI)⟩
       | exact H.hp.bU (L':=Lt) (by repeat (first|exact cu _|apply List.Sublist.cons)) ⟨_,rfl,fun _=>(by rw [eU (by omega),jO] at bP;have:=bP.len;simp only [List.length_nil,nT] at this;rw [← this];exact bP.now),fun e=>(by cases e)⟩
     intro oI a H
     try have p70:=dF oI
     refine kP H (Kc gq (SC (Rd rfl (Rm rfl ?_))));clear H gq;intro a H;refine aH ?_;refine cB ((ck+1,j4+((jO note (t+1) l[k].rows[rk].cells[ck].flow).length+1),KY,G69)) (by exact (H.dx (Pl:=[_,_,_,_]) (bZ:=[_,_,_]) [1,2,3] (by decide) rfl).sub ⟨rfl,rfl,rfl,rfl,rfl,rfl,rfl,rfl,rfl,rfl,rfl,av⟩) ?_ ?_
     ·(try dsimp only);exact ⟨by omega,fun b o h=>akB b o (vL b o h),pK.jump (hb5 (by simpa using oI))⟩
     first|omega|(dsimp only;omega)
    intro nM a H
    try have p55:=dF nM
    refine dJ ?_;refine dN _ _ ?_;clear dN;refine kP H (SC (Rd rfl (Rm rfl ?_)));clear H;intro a H;refine aH ?_;refine cB ((rk+1,j4,Lt4,g4)) (by exact (H.dx (Pl:=[_,_,_]) (bZ:=[_,_]) [1,2] (by decide) rfl).sub ⟨rfl,rfl,rfl,rfl,rfl,rfl,rfl,rfl,av⟩) ?_ ?_
    ·(try dsimp only);exact ⟨by omega,vL,by rw [eU (by omega),qz,jB] at pK;exact pK⟩
    first|omega|(dsimp only;omega)
   intro h48 a H
   try have p48:=dF h48
   refine dJ ?_;refine K9 _ _ ?_;clear K9;refine kP H (SC (Rd rfl (Rm rfl ?_)));clear H;intro a H;refine aH ?_;refine cB ((k+1,j3,Lt3,g3)) (by exact (H.dx (Pl:=[_,_]) (bZ:=[_]) [1] (by decide) rfl).sub ⟨rfl,rfl,rfl,rfl,rfl,av⟩) ?_ ?_
   ·(try dsimp only);exact ⟨by omega,rG,by rw [eU (by omega),pR,jB] at rM;exact rM⟩
   first|omega|(dsimp only;omega)
  intro Bt a H
  try have p42:=dF Bt
  refine kP H (Kc K9 (SC (Rd rfl (Rm rfl ?_))));clear H K9;intro a H;refine aH ?_;refine cB ((k+1,j1,Lt,g)) (by exact (H.dx (Pl:=[_,_]) (bZ:=[_]) [1] (by decide) rfl).sub ⟨rfl,rfl,rfl,rfl,rfl,av⟩) ?_ ?_
  ·(try dsimp only);exact ⟨by omega,hgm,by rw [ah p30,ah p42,jB] at bP;exact bP⟩
  first|omega|(dsimp only;omega)
 intro fM a H
 try have p25:=dF fM
 refine dJ ?_;refine K5 _ _ ?_;clear K5;refine kP H (SR fun _ iH=>ak iH rfl ?_);clear H iH;intro a H;refine lr H results161 rfl ?_
 first
  | exact H.hp.bU (L':=KV) (by repeat (first|exact cu _|apply List.Sublist.cons)) ⟨_,rfl,fun e=>(by cases e),fun _=>hb2 (by simpa using h21)⟩
  | exact H.hp.bU (L':=Gp) (by repeat (first|exact cu _|apply List.Sublist.cons)) ⟨_,rfl,fun e=>(by cases e),fun _=>hb4 (by simpa using mY)⟩
  | exact H.hp.bU (L':=KY) (by repeat (first|exact cu _|apply List.Sublist.cons)) ⟨_,rfl,fun e=>(by cases e),fun _=>hb6 (by simpa using oI)⟩
  | exact H.hp.bU (L':=Lt) (by repeat (first|exact cu _|apply List.Sublist.cons)) ⟨_,rfl,fun _=>(by rw [eU (by omega),jO] at bP;have:=bP.len;simp only [List.length_nil,nT] at this;rw [← this];exact bP.now),fun e=>(by cases e)⟩
theorem adS:∀ n:Nat,n≤4294967297→QY n
 | 0,_=>fun _ _ _ _ _ _ _ _ _ _ _ _ _ _ _ _ _ _ _ _ _ _ h=>absurd h (by omega)
 | n+1,hn=>aqz (adS n (by omega)) (by omega)
def gK (l:List aC):List lu:=⟨0,l,true,false,0⟩ :: jO false 0 l
theorem aiz {G:GH} {ba bl bp:Nat} {l:List aC} {v:aj} {id t:Int} {body note:Bool} (h1:aF G ba 0=some (vi id)) (h2:aF G bl 0=some v) (h3:G bp=some (.cells #[.bool body,.bool note,vi t] 90 (0,0))) (hv:aB G (.sl 11 (l.map aC.dat)) v) (hz:bB l≤4294967296) (ht0:0≤t) (ht1:t+bB l≤4294967296) :
  Iter prog G (.func (.func 160) #[] #[(aP ba 0),(aP bl 0),(aP bp 0)]) ((⟨id,l,body,note,t⟩ :: jO note t l).map DK):=by
 intro J Jx fv G1 L w0 D6 hGi mM hJx hJ hO hcb;refine nk (caps:=[(aP ba 0),(aP bl 0),(aP bp 0)]) RG ?_;replace h1:=aJ hGi h1;replace h2:=aJ hGi h2
 have hrow:∀ j u,[.bool body,.bool note,vi t][j]?=some u→aF G1 bp (0+j)=some u:=by
  intro j u hj;refine aJ hGi ?_
  unfold aF;rw [h3];simpa using hj
 refine kS (N:=10) (T:=[(0,_),(1,_),(2,_),(3,_)]) func160 rfl ntmps160 rfl rfl hO ?_;intro a H;refine kP H (SC (Rg aD rfl (by assumption) ?_));clear H;intro a H;refine kH H (Rg jy rfl (by assumption) ?_);clear H;intro a H;refine bK Qp (cs:=[_,_,_]) H wn rfl rfl (fun j v hj=>H.hp.aF (hrow j v hj)) rfl ?_;clear H;intro a H;refine kH H (Rm rfl ?_);clear H;intro a H;refine gW RH (Li:=[]) (L:=L) H wn rfl (adS 4294967297 (by omega) _ G1 _ J Jx G1 _ _ 0 l id body note t _ (fun _ _ h=>h) hcb mM hJx hJ (Hp.owns (Li:=[]) H.hp) (hv.mono hGi) (by omega) ht0 ht1 (fun i a h=>by rw [ng,oQ,h];rfl)) rfl ?_;clear H;rintro v9 G9 L9 a w ⟨b9,rfl,h1,h2⟩ JL H;refine aH ?_;refine (leave0 H results160 ?_).2
 cases b9
 ·exact H.hp.gB (.inr (h2 rfl))
 exact H.hp.gB (.inl (by simpa using h1 rfl))
theorem aiA (G:GH) (w0:World) (hG:Hold G w0) (l:List aC) (v:aj) (id t:Int) (body note:Bool) (hv:aB G (.sl 11 (l.map aC.dat)) v) (hz:bB l≤4294967296) (ht0:0≤t) (ht1:t+bB l≤4294967296) :
  Calls prog 100 #[vi id,v,.agg #[.bool body,.bool note,vi t]] w0 (bV w0 G fun u G'=>∃ ba bl bp,u=.func (.func 160) #[] #[(aP ba 0),(aP bl 0),(aP bp 0)]∧Iter prog G' u ((⟨id,l,body,note,t⟩ :: jO note t l).map DK)):=by
 obtain ⟨A,c,rfl,hc1,hc2,hg⟩:=hv.slice;refine eN [(0,_),(1,_),(2,_)] func100 rfl ntmps100 rfl rfl hG ?_;intro a H;refine cO (fun _ K1=>?_);refine fD (cs:=[_]) H wn rfl rfl rfl ?_;clear H;intro b3 a w hb3 H;refine fD (cs:=[_]) H wn rfl rfl rfl ?_;clear H;intro b4 a w hb4 H;refine fD (cs:=[_,_,_]) H wn rfl rfl rfl ?_;clear H;intro b5 a w hb5 H;refine kH H (ak K1 rfl (SR fun _ K2=>?_));clear H K1;intro a H;refine pO H wn rfl rfl ?_;clear H;intro a H;refine kH H (ak K2 rfl ?_);clear H K2;intro a H;refine dK ?_;obtain ⟨G2,hm2,hb5,H⟩:=H.eD;obtain ⟨G3,rJ,hb4,H⟩:=H.eD;obtain ⟨G4,OU,hb3,H⟩:=H.eD;refine lv H results100 rfl ?_;exact H.rt ⟨b3,b4,b5,rfl,aiz (by unfold aF;rw [hb3];rfl) (aJ OU (by unfold aF;rw [hb4];rfl)) (OU _ _ (rJ _ _ hb5)) (hv.mono fun b o h=>OU _ _ (rJ _ _ (hm2 _ _ h))) hz ht0 ht1⟩
theorem acd (G:GH) (w0:World) (hG:Hold G w0) (D:jP) (l:List aC) (hv:aB G (.sl 11 (l.map aC.dat)) (bg D.f)) (hz:bB l≤4294967296) :
  Calls prog 44 #[D.val] w0 (bV w0 G fun u G'=>∃ ba bl bp,u=.func (.func 160) #[] #[(aP ba 0),(aP bl 0),(aP bp 0)]∧Iter prog G' u ((gK l).map DK)):=by
 refine eN [(0,_)] func44 rfl ntmps44 rfl rfl hG ?_;intro a H;refine cO (fun _ K1=>?_);refine fD (cs:=[_,_,_,_,_,_,_,_,_,_,_]) H wn rfl rfl rfl ?_;clear H;intro b1 a w hb1 H;refine kH H (ak K1 rfl (SR fun _ K2=>aR Bf jy 0 rfl rfl ?_));clear H K1;intro a H;refine mq FT [_,_,_] H wn rfl rfl rfl rfl ?_;clear H;intro a H;refine s_call agl H wn rfl (aiA _ _ H.ro l _ 0 0 true false hv hz (by omega) (by omega)) rfl ?_;clear H;rintro v6 G6 a w ⟨ba,bl,bp,rfl,hit⟩ Eb H;exact kH H (ak K2 rfl (LR results44 rfl fun H=>H.rt ⟨ba,bl,bp,rfl,hit⟩))
end
section
open Go.RowKit
theorem Rz:∀ args w,(callFunc 107 args).run prog w=.ok (.enter 107 args) w:=enters func107 rfl (by kernel_rfl)
mutual
/-- The ids in items, in document order. -/
def Eh:aC→List Int
 | .mk k _ i _ _ f r=>(if k=6∨k=7 then [i] else [])++((if k=6 then fK f else [])++(if k=7 then wU r else []))
def fK:List aC→List Int
 | []=>[]
 | x :: r=>Eh x++fK r
def Ei:bH→List Int
 | .mk _ c=>yu c
def wU:List bH→List Int
 | []=>[]
 | x :: r=>Ei x++wU r
def Ef:bq→List Int
 | .mk i _ f=>i :: fK f
def yu:List bq→List Int
 | []=>[]
 | x :: r=>Ef x++yu r
end
theorem abf (x:aC):Eh x=(if x.kind=6∨x.kind=7 then [x.id] else [])++((if x.kind=6 then fK x.flow else [])++(if x.kind=7 then wU x.rows else [])):=by cases x;rw [Eh];rfl
theorem abg (x:bH):Ei x=yu x.cells:=by cases x;rw [Ei];rfl
theorem abe (x:bq):Ef x=x.id :: fK x.flow:=by cases x;rw [Ef];rfl
def CF (i:Int):AP:=fun args _=>args=[vi i]
def QX (n:Nat):Prop:=∀ (fv:aj) (Gi:GH) (xs:List AP) (J:Nat→GH→OL→Prop) (Jx:GH→OL→Prop) (G:GH) (L:OL) (w0:World) (j:Nat) (l:List aC) (v:aj),
 (∀ b o,Gi b=some o→G b=some o)→EA prog fv Gi xs J Jx→EF J→GD Jx→J j G L→iT G L w0→aB G (.sl 11 (l.map aC.dat)) v→bB l < n→(∀ i a,(fK l)[i]?=some a→xs[j+i]?=some (CF a)) →
 Calls prog 107 #[v,fv] w0 (iE w0 G L fun u G' L'=>∃ b,u=.bool b∧(b=true→J (j+(fK l).length) G' L')∧(b=false→Jx G' L'))
set_option maxHeartbeats 1000000 in
theorem aqs {n:Nat} (ih:QX n) (hn:n≤4294967296):QX (n+1):=by
 intro fv Gi xs J Jx G L w0 j0 l v hGi hcb mM hJx hJ0 hO hv hz hx0;obtain ⟨A,c,rfl,hc1,hc2,hg⟩:=hv.slice;rw [bN] at *;have hll:=Dg l;refine kS (N:=74) (T:=[(0,_),(1,_)]) func107 rfl ntmps107 rfl rfl hO ?_;intro a H;refine kP H (SR fun _ K1=>ak K1 rfl (SQ fun _ K2=>SR fun _ K3=>Rm rfl (Rl jM rfl (Rm rfl (Kz K3 (SB ?_))))));clear H K1 K3;intro a H;skip;refine dV (ι:=Nat × Nat × OL × GH) (Tc:=[(1,_),(11,_),(12,_)]) (Lc:=[]) (fun gh=>[(13,vi gh.1)]) (fun gh=>[]++gh.2.2.1) (fun gh=>gh.2.2.2) (fun gh=>gh.1≤l.length∧(∀ b o,G b=some o→gh.2.2.2 b=some o)∧Now xs CF J (j0+(fK l).length) gh.2.1 (fK (l.drop gh.1)) gh.2.2.2 gh.2.2.1) (fun gh=>l.length - gh.1) ((0,j0,L,G)) (by exact (H).sub ⟨rfl,rfl,rfl,rfl,av⟩) ?_ ?_
 ·exact ⟨by omega,fun _ _ h=>h,⟨hJ0,hx0,rfl⟩⟩
 clear H;rintro ⟨k,j,Lt,g⟩ a w hI H;dsimp only at hI H;obtain ⟨hk,hgm,bP⟩:=hI;dsimp only [lca,aO] at H;refine kP H (SR fun _ K4=>Rc rfl (Kz K4 (SQ fun _ K5=>Cd rfl ?_ ?_))) <;> clear H K4
 ·intro gT a H
  try have sK:=dT gT
  have hk2:k < l.length:=by omega
  obtain ⟨b,o,pA,pn,pc,dA,dn,dc,yA,yn,yc,fA,fn,fc,rA,rn,rc,rfl,hrow,hhd,hfl,hrw⟩:=Bl hk2 hg;replace hrow:=fun j u hj=>aJ hgm (hrow j u hj);have hrn:=hrw.len;rw [bN] at hrn;subst hrn;have hrs:=Dh l[k].rows;have hsz1:=WQ hk2;rw [jw hk2] at bP
  simp only [fK,abf,iQ] at bP
  refine kP H (Kc K5 (SQ fun _ K6=>SB (SR fun _ K7=>Ri jM eH rfl rfl ?_)));clear H K5;intro a H;refine bK eH (cs:=[_,_,_,_,_,_,_,_,_,_,_]) H wn rfl rfl (fun j v hj=>H.hp.aF (hrow j v hj)) rfl ?_;clear H;intro a H;refine dY eH H wn rfl ?_;clear H;intro b6 a w hb6 H;refine bT eH 0 (vs:=[_,_,_,_,_,_,_,_,_,_,_]) _ H wn rfl rfl rfl rfl rfl rfl rfl rfl ?_;clear H;intro w H;dsimp only [List.set,setRow] at H;refine K7 _ _ ?_;clear K7;refine kP H (SQ fun _ K8=>SR fun _ K9=>aR gH aD 0 rfl rfl (Rc rfl (Rm rfl (Sp 20 rfl ?_ ?_)))) <;> clear H
  ·intro h20 a H
   try have qP:=dT h20
   rw [au (Or.inl qP),au qP,ah (by omega)] at bP
   simp only [mE,jB] at bP
   refine kH H (aZ h20 rfl (Pt h20 rfl (Rm rfl ?_)));clear H;intro a H;refine En H (wg H rfl rfl rfl) rfl rfl ?_;clear H;intro a H;refine Km vE H (wg H rfl rfl rfl) rfl rfl ?_;clear H;intro a H;refine zK aD H (wg H rfl rfl rfl) rfl (H.hp.tN 0 rfl rfl) rfl ?_;clear H;intro a H;refine rP (Li:=[_]) (L:=Lt) H (wg H rfl rfl rfl) rfl rfl (hcb _ _ _ _ _ ⟨_,bP.head,rfl⟩ (fun b o h=>hgm b o (hGi b o h)) bP.now (Hp.owns (Li:=[_]) H.hp)) rfl ?_;clear H;rintro v29 IZ Dm a w ⟨b29,rfl,hb1,hb2⟩ Uv H;refine VY H (wg H rfl rfl rfl) rfl rfl ?_;clear H;intro a H;refine kH H (Pt rfl rfl (Kz K9 (Cd rfl ?_ ?_))) <;> clear H K9
   ·intro h31 a H
    try have p31:=dT h31
    refine kP H (SR fun _ aU=>ak aU rfl ?_);clear H aU;intro a H;refine lr H results107 rfl ?_
    first
     | exact H.hp.bU (L':=Dm) (by repeat (first|exact cu _|apply List.Sublist.cons)) ⟨_,rfl,fun e=>(by cases e),fun _=>hb2 (by simpa using h31)⟩
     | exact H.hp.bU (L':=Gn) (by repeat (first|exact cu _|apply List.Sublist.cons)) ⟨_,rfl,fun e=>(by cases e),fun _=>hb4 (by simpa using mY)⟩
     | exact H.hp.bU (L':=Gq) (by repeat (first|exact cu _|apply List.Sublist.cons)) ⟨_,rfl,fun e=>(by cases e),fun _=>hb6 (by simpa using h64)⟩
     | exact H.hp.bU (L':=Gw) (by repeat (first|exact cu _|apply List.Sublist.cons)) ⟨_,rfl,fun e=>(by cases e),fun _=>Ai (by simpa using oI)⟩
     | exact H.hp.bU (L':=Lt) (by repeat (first|exact cu _|apply List.Sublist.cons)) ⟨_,rfl,fun _=>(by rw [eU (by omega),fK] at bP;have:=bP.len;simp only [List.length_nil,nT] at this;rw [← this];exact bP.now),fun e=>(by cases e)⟩
   intro h31 a H
   try have p31:=dF h31
   have pJ:=bP.step (hb1 (by simpa using h31));have kI:∀ b o,G b=some o→IZ b=some o:=fun b o h=>Uv b o (hgm b o h);refine kP H (Kc K8 (SQ fun _ bD=>SR fun _ bE=>aR gH aD 0 rfl rfl (Rc rfl (Rm rfl (YF Bh h20 rfl (YO jy 0 h20 rfl (YM h20 rfl ?_)))))));clear H K8;intro a H;refine gW Rz (Li:=[_]) (L:=Dm) H (wg H rfl rfl h20) rfl (ih fv Gi xs J Jx _ _ _ (j+1) l[k].flow _ (fun b o h=>kI b o (hGi b o h)) hcb mM hJx pJ.now (Hp.owns (Li:=[_]) H.hp) (hfl.mono kI) (by omega) pJ.part) rfl ?_;clear H;rintro v39 QD Gn a w ⟨b39,rfl,hb3,hb4⟩ aal H;refine kH H (YN h20 rfl (Pt h20 rfl (Kz bE (Cd rfl ?_ ?_)))) <;> clear H bE
   ·intro mY a H
    try have p41:=dT mY
    refine kP H (SR fun _ bQ=>ak bQ rfl ?_);clear H bQ;intro a H;refine lr H results107 rfl ?_
    first
     | exact H.hp.bU (L':=Dm) (by repeat (first|exact cu _|apply List.Sublist.cons)) ⟨_,rfl,fun e=>(by cases e),fun _=>hb2 (by simpa using h31)⟩
     | exact H.hp.bU (L':=Gn) (by repeat (first|exact cu _|apply List.Sublist.cons)) ⟨_,rfl,fun e=>(by cases e),fun _=>hb4 (by simpa using mY)⟩
     | exact H.hp.bU (L':=Gq) (by repeat (first|exact cu _|apply List.Sublist.cons)) ⟨_,rfl,fun e=>(by cases e),fun _=>hb6 (by simpa using h64)⟩
     | exact H.hp.bU (L':=Gw) (by repeat (first|exact cu _|apply List.Sublist.cons)) ⟨_,rfl,fun e=>(by cases e),fun _=>Ai (by simpa using oI)⟩
     | exact H.hp.bU (L':=Lt) (by repeat (first|exact cu _|apply List.Sublist.cons)) ⟨_,rfl,fun _=>(by rw [eU (by omega),fK] at bP;have:=bP.len;simp only [List.length_nil,nT] at this;rw [← this];exact bP.now),fun e=>(by cases e)⟩
   intro mY a H
   try have p41:=dF mY
   refine kP H (Kc bD (SQ fun _ bR=>SR fun _ bW=>aR gH aD 0 rfl rfl (Rc rfl (Kz bW (Cd rfl ?_ ?_))))) <;> clear H bD bW
   ·intro kT a H
    try have p44:=dT kT
    refine dJ ?_;refine K6 _ _ ?_;clear K6;refine kP H (SC (Rd rfl (Rm rfl ?_)));clear H;intro a H;refine aH ?_;refine cB ((k+1,j+1+(fK l[k].flow).length,Gn,QD)) (by exact (H.dx (Pl:=[_]) (bZ:=[]) [] (by decide) rfl).sub ⟨rfl,rfl,rfl,rfl,av⟩) ?_ ?_
    ·(try dsimp only);exact ⟨by omega,fun b o h=>aal b o (kI b o h),pJ.jump (hb3 (by simpa using mY))⟩
    first|omega|(dsimp only;omega)
   intro kT a H
   try have p44:=dF kT
   exact absurd (show l[k].kind=7 by omega) (by omega)
  intro h20 a H
  try have qP:=dF h20
  refine kH H (YF gH h20 rfl (YO aD 0 h20 rfl (YC h20 rfl (Pf h20 rfl (Rm rfl (Sp 25 rfl ?_ ?_)))))) <;> clear H
  ·intro fM a H
   try have p25:=dT fM
   rw [au (Or.inr p25),ah qP,au p25] at bP
   simp only [mE,jB] at bP
   refine kH H (YM fM rfl (YF vE fM rfl (YO aD 0 fM rfl ?_)));clear H;intro a H;refine rP (Li:=[_]) (L:=Lt) H (wg H rfl rfl fM) rfl rfl (hcb _ _ _ _ _ ⟨_,bP.head,rfl⟩ (fun b o h=>hgm b o (hGi b o h)) bP.now (Hp.owns (Li:=[_]) H.hp)) rfl ?_;clear H;rintro v29 IZ Dm a w ⟨b29,rfl,hb1,hb2⟩ Uv H;refine kH H (YN fM rfl (Pt fM rfl (Kz K9 (Cd rfl ?_ ?_)))) <;> clear H K9
   ·intro h31 a H
    try have p31:=dT h31
    refine kP H (SR fun _ cK=>ak cK rfl ?_);clear H cK;intro a H;refine lr H results107 rfl ?_
    first
     | exact H.hp.bU (L':=Dm) (by repeat (first|exact cu _|apply List.Sublist.cons)) ⟨_,rfl,fun e=>(by cases e),fun _=>hb2 (by simpa using h31)⟩
     | exact H.hp.bU (L':=Gn) (by repeat (first|exact cu _|apply List.Sublist.cons)) ⟨_,rfl,fun e=>(by cases e),fun _=>hb4 (by simpa using mY)⟩
     | exact H.hp.bU (L':=Gq) (by repeat (first|exact cu _|apply List.Sublist.cons)) ⟨_,rfl,fun e=>(by cases e),fun _=>hb6 (by simpa using h64)⟩
     | exact H.hp.bU (L':=Gw) (by repeat (first|exact cu _|apply List.Sublist.cons)) ⟨_,rfl,fun e=>(by cases e),fun _=>Ai (by simpa using oI)⟩
     | exact H.hp.bU (L':=Lt) (by repeat (first|exact cu _|apply List.Sublist.cons)) ⟨_,rfl,fun _=>(by rw [eU (by omega),fK] at bP;have:=bP.len;simp only [List.length_nil,nT] at this;rw [← this];exact bP.now),fun e=>(by cases e)⟩
   intro h31 a H
   try have p31:=dF h31
   have pJ:=bP.step (hb1 (by simpa using h31));have kI:∀ b o,G b=some o→IZ b=some o:=fun b o h=>Uv b o (hgm b o h);refine kP H (Kc K8 (SQ fun _ bY=>SR fun _ dG=>aR gH aD 0 rfl rfl (Rc rfl (Rm rfl (aZ h20 rfl (aT h20 rfl (Pf h20 rfl (Kz dG (Cf rfl rfl (Kc bY (SQ fun _ dN=>SR fun _ dH=>aR gH aD 0 rfl rfl (Rc rfl (Kz dH (Cd rfl ?_ ?_)))))))))))))) <;> clear H K8 dG bY dH
   ·intro kT a H
    try have p44:=dT kT
    exact absurd p25 p44
   intro kT a H
   try have p44:=dF kT
   refine kP H (Kc dN (SR fun _ dP=>aR qH qR 0 rfl rfl (Rl jG rfl (Rm rfl (Kz dP (SB ?_))))));clear H dN dP;intro a H;skip;refine dV (ι:=Nat × Nat × OL × GH) (Tc:=[(1,_),(11,_),(12,_),(13,_),(46,_),(47,_)]) (Lc:=[(_,_)]) (fun gh=>[(48,vi gh.1)]) (fun gh=>[]++gh.2.2.1) (fun gh=>gh.2.2.2) (fun gh=>gh.1≤l[k].rows.length∧(∀ b o,G b=some o→gh.2.2.2 b=some o)∧Now xs CF J (j0+(fK l).length) gh.2.1 (wU (l[k].rows.drop gh.1)++fK (l.drop (k+1))) gh.2.2.2 gh.2.2.1) (fun gh=>l[k].rows.length - gh.1) ((0,j+1,Dm,IZ)) (by exact (H).sub ⟨rfl,rfl,rfl,rfl,rfl,rfl,rfl,av⟩) ?_ ?_
   ·exact ⟨by omega,kI,pJ⟩
   clear H;rintro ⟨rk,j3,Lt3,g3⟩ a w hI H;dsimp only at hI H;obtain ⟨JU,rG,rM⟩:=hI;dsimp only [lca,aO] at H;refine kP H (SR fun _ eT=>Rc rfl (Kz eT (SQ fun _ fP=>Cd rfl ?_ ?_))) <;> clear H eT
   ·intro nX a H
    try have p49:=dT nX
    have hk3:rk < l[k].rows.length:=by omega
    obtain ⟨b2,o2,qA,qn,qc,eA,en,ec,zA,zn,zc,cA,cn,cc,rfl,hrow,vN,hcl⟩:=CW hk3 hrw.at_;replace hrow:=fun j u hj=>aJ rG (hrow j u hj);have hcn:=hcl.len;rw [bN] at hcn;subst hcn;have hsz2:=IU hk3;have hcs:=Dc l[k].rows[rk].cells;rw [jw hk3] at rM
    simp only [wU,abg,iQ] at rM
    refine kP H (Kc fP (SQ fun _ gq=>SB (SR fun _ gG=>Ri jG jJ rfl rfl ?_)));clear H fP;intro a H;refine bK jJ (cs:=[_,_,_,_,_,_]) H wn rfl rfl (fun j v hj=>H.hp.aF (hrow j v hj)) rfl ?_;clear H;intro a H;refine dY jJ H wn rfl ?_;clear H;intro b8 a w Ai H;refine bT jJ 0 (vs:=[_,_,_,_,_,_]) _ H wn rfl rfl rfl rfl rfl rfl rfl rfl ?_;clear H;intro w H;dsimp only [List.set,setRow] at H;refine gG _ _ ?_;clear gG;refine kP H (SR fun _ iP=>aR qh qy 0 rfl rfl (Rl lQ rfl (Rm rfl (Kz iP (SB ?_)))));clear H iP;intro a H;skip;refine dV (ι:=Nat × Nat × OL × GH) (Tc:=[(1,_),(11,_),(12,_),(13,_),(46,_),(47,_),(48,_),(53,_),(54,_)]) (Lc:=[(_,_),(_,_)]) (fun gh=>[(55,vi gh.1)]) (fun gh=>[]++gh.2.2.1) (fun gh=>gh.2.2.2) (fun gh=>gh.1≤l[k].rows[rk].cells.length∧(∀ b o,G b=some o→gh.2.2.2 b=some o)∧Now xs CF J (j0+(fK l).length) gh.2.1 (yu (l[k].rows[rk].cells.drop gh.1)++(wU (l[k].rows.drop (rk+1))++fK (l.drop (k+1)))) gh.2.2.2 gh.2.2.1) (fun gh=>l[k].rows[rk].cells.length - gh.1) ((0,j3,Lt3,g3)) (by exact (H).sub ⟨rfl,rfl,rfl,rfl,rfl,rfl,rfl,rfl,rfl,rfl,av⟩) ?_ ?_
    ·exact ⟨by omega,rG,rM⟩
    clear H;rintro ⟨ck,j4,Lt4,g4⟩ a w hI H;dsimp only at hI H;obtain ⟨hck,vL,pK⟩:=hI;dsimp only [lca,aO] at H;refine kP H (SR fun _ jm=>Rc rfl (Kz jm (SQ fun _ iH=>Cd rfl ?_ ?_))) <;> clear H jm
    ·intro qj a H
     try have p56:=dT qj
     have hk4:ck < l[k].rows[rk].cells.length:=by omega
     obtain ⟨b3,o3,sA,sn,sc,tA,tn,tc,uA,un,uc,gA,gn,gc,rfl,hrow,hch,hcf⟩:=AY hk4 hcl.at_;replace hrow:=fun j u hj=>aJ vL (hrow j u hj);have FE:=KF hk4;rw [jw hk4] at pK
     simp only [yu,abe,iQ,mE] at pK
     refine kP H (Kc iH (SQ fun _ kW=>SB (SR fun _ kX=>Ri lQ jK rfl rfl ?_)));clear H iH;intro a H;refine bK jK (cs:=[_,_,_,_,_,_,_]) H wn rfl rfl (fun j v hj=>H.hp.aF (hrow j v hj)) rfl ?_;clear H;intro a H;refine dY jK H wn rfl ?_;clear H;intro b10 a w JE H;refine bT jK 0 (vs:=[_,_,_,_,_,_,_]) _ H wn rfl rfl rfl rfl rfl rfl rfl rfl ?_;clear H;intro w H;dsimp only [List.set,setRow] at H;refine kX _ _ ?_;clear kX;refine kP H (SR fun _ jQ=>Rm rfl (aR DC aD 0 rfl rfl ?_));clear H;intro a H;refine rP (Li:=[_,_,_]) (L:=Lt4) H wn rfl rfl (hcb _ _ _ _ _ ⟨_,pK.head,rfl⟩ (fun b o h=>vL b o (hGi b o h)) pK.now (Hp.owns (Li:=[_,_,_]) H.hp)) rfl ?_;clear H;rintro v62 Xg Gq a w ⟨X4,rfl,hb5,hb6⟩ MB H;refine kH H (Rn rfl (Rm rfl (Sp 64 rfl ?_ ?_))) <;> clear H
     ·intro h64 a H
      try have p64:=dT h64
      refine kH H (aZ h64 rfl (aT h64 rfl (Pt h64 rfl (Kz jQ (Ct rfl rfl (SR fun _ lC=>ak lC rfl ?_))))));clear H jQ lC;intro a H;refine lr H results107 rfl ?_
      first
       | exact H.hp.bU (L':=Dm) (by repeat (first|exact cu _|apply List.Sublist.cons)) ⟨_,rfl,fun e=>(by cases e),fun _=>hb2 (by simpa using h31)⟩
       | exact H.hp.bU (L':=Gn) (by repeat (first|exact cu _|apply List.Sublist.cons)) ⟨_,rfl,fun e=>(by cases e),fun _=>hb4 (by simpa using mY)⟩
       | exact H.hp.bU (L':=Gq) (by repeat (first|exact cu _|apply List.Sublist.cons)) ⟨_,rfl,fun e=>(by cases e),fun _=>hb6 (by simpa using h64)⟩
       | exact H.hp.bU (L':=Gw) (by repeat (first|exact cu _|apply List.Sublist.cons)) ⟨_,rfl,fun e=>(by cases e),fun _=>Ai (by simpa using oI)⟩
       | exact H.hp.bU (L':=Lt) (by repeat (first|exact cu _|apply List.Sublist.cons)) ⟨_,rfl,fun _=>(by rw [eU (by omega),fK] at bP;have:=bP.len;simp only [List.length_nil,nT] at this;rw [← this];exact bP.now),fun e=>(by cases e)⟩
     intro h64 a H
     try have p64:=dF h64
     have Ib:=pK.step (hb5 (by simpa using h64));refine kH H (YF Cn h64 rfl (YO jy 0 h64 rfl (YM h64 rfl ?_)));clear H;intro a H;refine gW Rz (Li:=[_,_,_]) (L:=Gq) H (wg H rfl rfl h64) rfl (ih fv Gi xs J Jx _ _ _ (j4+1) l[k].rows[rk].cells[ck].flow _ (fun b o h=>MB b o (vL b o (hGi b o h))) hcb mM hJx Ib.now (Hp.owns (Li:=[_,_,_]) H.hp) ((hcf.mono vL).mono MB) (by omega) Ib.part) rfl ?_;clear H;rintro v68 G68 Gw a w ⟨b68,rfl,yg,Ai⟩ akA H;refine kH H (YN h64 rfl (Pf h64 rfl (Kz jQ (Cd rfl ?_ ?_)))) <;> clear H jQ
     ·intro oI a H
      try have p70:=dT oI
      refine kP H (SR fun _ lD=>ak lD rfl ?_);clear H lD;intro a H;refine lr H results107 rfl ?_
      first
       | exact H.hp.bU (L':=Dm) (by repeat (first|exact cu _|apply List.Sublist.cons)) ⟨_,rfl,fun e=>(by cases e),fun _=>hb2 (by simpa using h31)⟩
       | exact H.hp.bU (L':=Gn) (by repeat (first|exact cu _|apply List.Sublist.cons)) ⟨_,rfl,fun e=>(by cases e),fun _=>hb4 (by simpa using mY)⟩
       | exact H.hp.bU (L':=Gq) (by repeat (first|exact cu _|apply List.Sublist.cons)) ⟨_,rfl,fun e=>(by cases e),fun _=>hb6 (by simpa using h64)⟩
       | exact H.hp.bU (L':=Gw) (by repeat (first|exact cu _|apply List.Sublist.cons)) ⟨_,rfl,fun e=>(by cases e),fun _=>Ai (by simpa using oI)⟩
       | exact H.hp.bU (L':=Lt) (by repeat (first|exact cu _|apply List.Sublist.cons)) ⟨_,rfl,fun _=>(by rw [eU (by omega),fK] at bP;have:=bP.len;simp only [List.length_nil,nT] at this;rw [← this];exact bP.now),fun e=>(by cases e)⟩
     intro oI a H
     try have p70:=dF oI
     refine kP H (Kc kW (SC (Rd rfl (Rm rfl ?_))));clear H kW;intro a H;refine aH ?_;refine cB ((ck+1,j4+1+(fK l[k].rows[rk].cells[ck].flow).length,Gw,G68)) (by exact (H.dx (Pl:=[_,_,_]) (bZ:=[_,_]) [1,2] (by decide) rfl).sub ⟨rfl,rfl,rfl,rfl,rfl,rfl,rfl,rfl,rfl,rfl,av⟩) ?_ ?_
     ·(try dsimp only);exact ⟨by omega,fun b o h=>akA b o (MB b o (vL b o h)),Ib.jump (yg (by simpa using oI))⟩
     first|omega|(dsimp only;omega)
    intro qj a H
    try have p56:=dF qj
    refine dJ ?_;refine gq _ _ ?_;clear gq;refine kP H (SC (Rd rfl (Rm rfl ?_)));clear H;intro a H;refine aH ?_;refine cB ((rk+1,j4,Lt4,g4)) (by exact (H.dx (Pl:=[_,_]) (bZ:=[_]) [1] (by decide) rfl).sub ⟨rfl,rfl,rfl,rfl,rfl,rfl,rfl,av⟩) ?_ ?_
    ·(try dsimp only);exact ⟨by omega,vL,by rw [eU (by omega),yu,jB] at pK;exact pK⟩
    first|omega|(dsimp only;omega)
   intro nX a H
   try have p49:=dF nX
   refine dJ ?_;refine K6 _ _ ?_;clear K6;refine kP H (SC (Rd rfl (Rm rfl ?_)));clear H;intro a H;refine aH ?_;refine cB ((k+1,j3,Lt3,g3)) (by exact (H.dx (Pl:=[_]) (bZ:=[]) [] (by decide) rfl).sub ⟨rfl,rfl,rfl,rfl,av⟩) ?_ ?_
   ·(try dsimp only);exact ⟨by omega,rG,by rw [eU (by omega),wU,jB] at rM;exact rM⟩
   first|omega|(dsimp only;omega)
  intro fM a H
  try have p25:=dF fM
  rw [ah (by omega),ah qP,ah p25] at bP
  simp only [jB] at bP
  refine kH H (aZ fM rfl (aT fM rfl (Pf fM rfl (Kz K9 (Cf rfl rfl (Kc K8 (SQ fun _ lX=>SR fun _ lY=>aR gH aD 0 rfl rfl (Rc rfl (Rm rfl (aZ h20 rfl (aT h20 rfl (Pf h20 rfl (Kz lY (Cf rfl rfl (Kc lX (SQ fun _ lZ=>SR fun _ mV=>aR gH aD 0 rfl rfl (Rc rfl (Kz mV (Cd rfl ?_ ?_))))))))))))))))))) <;> clear H K9 K8 lY lX mV
  ·intro kT a H
   try have p44:=dT kT
   refine dJ ?_;refine K6 _ _ ?_;clear K6;refine kP H (SC (Rd rfl (Rm rfl ?_)));clear H;intro a H;refine aH ?_;refine cB ((k+1,j,Lt,g)) (by exact (H.dx (Pl:=[_]) (bZ:=[]) [] (by decide) rfl).sub ⟨rfl,rfl,rfl,rfl,av⟩) ?_ ?_
   ·(try dsimp only);exact ⟨by omega,hgm,bP⟩
   first|omega|(dsimp only;omega)
  intro kT a H
  try have p44:=dF kT
  exact absurd p25 p44
 intro gT a H
 try have sK:=dF gT
 refine dJ ?_;refine K2 _ _ ?_;clear K2;refine kP H (SR fun _ qX=>ak qX rfl ?_);clear H qX;intro a H;refine lr H results107 rfl ?_
 first
  | exact H.hp.bU (L':=Dm) (by repeat (first|exact cu _|apply List.Sublist.cons)) ⟨_,rfl,fun e=>(by cases e),fun _=>hb2 (by simpa using h31)⟩
  | exact H.hp.bU (L':=Gn) (by repeat (first|exact cu _|apply List.Sublist.cons)) ⟨_,rfl,fun e=>(by cases e),fun _=>hb4 (by simpa using mY)⟩
  | exact H.hp.bU (L':=Gq) (by repeat (first|exact cu _|apply List.Sublist.cons)) ⟨_,rfl,fun e=>(by cases e),fun _=>hb6 (by simpa using h64)⟩
  | exact H.hp.bU (L':=Gw) (by repeat (first|exact cu _|apply List.Sublist.cons)) ⟨_,rfl,fun e=>(by cases e),fun _=>Ai (by simpa using oI)⟩
  | exact H.hp.bU (L':=Lt) (by repeat (first|exact cu _|apply List.Sublist.cons)) ⟨_,rfl,fun _=>(by rw [eU (by omega),fK] at bP;have:=bP.len;simp only [List.length_nil,nT] at this;rw [← this];exact bP.now),fun e=>(by cases e)⟩
theorem adK:∀ n:Nat,n≤4294967297→QX n
 | 0,_=>fun _ _ _ _ _ _ _ _ _ _ _ _ _ _ _ _ _ _ _ h=>absurd h (by omega)
 | n+1,hn=>aqs (adK n (by omega)) (by omega)
end
section
open Go.RowKit
theorem lV:Ty prog 38 11 232 [.slice none 0 0,.slice none 0 0,.int .i64 0,.int .i64 0,.slice none 0 0,.slice none 0 0,.slice none 0 0,.slice none 0 0,.slice none 0 0,.slice none 0 0,.slice none 0 0] true:=⟨by kernel_rfl,by kernel_rfl⟩
theorem Y7:∀ args w,(callFunc 44 args).run prog w=.ok (.enter 44 args) w:=enters func44 rfl (by kernel_rfl)
theorem adp:Ty prog 92 4 40 [.slice none 0 0,.bool false,.bool false,.int .i64 0] true:=⟨by kernel_rfl,by kernel_rfl⟩
theorem ain:dL prog 92 0 0:=⟨by kernel_rfl⟩
mutual
theorem aqw {note:Bool} {t:Int} {f:lu}:∀ {x:aC},f∈zP note t x→bB f.items < dh x.dat
 | .mk k c i tx h fl r,hf=>by
  have h4:=oN (.mk k c i tx h fl r)
  simp only [aC.text,aC.head,aC.flow,aC.rows] at h4
  rw [zP] at hf
  split at hf
  ·rcases nG.1 hf with rfl|hf
   ·show bB fl < _;omega
   have:=Qw hf;omega
  split at hf
  ·have:=adR hf;omega
  cases hf
theorem Qw {note:Bool} {t:Int} {f:lu}:∀ {l:List aC},f∈jO note t l→bB f.items≤bB l
 | [],hf=>by simp [jO] at hf
 | x :: l,hf=>by
  rw [jO] at hf
  simp only [bB,dW,eu]
  rcases rU.1 hf with hf|hf
  ·have:=aqw hf;simp only [bB] at this;omega
  have:=Qw hf;simp only [bB] at this;omega
theorem adR {note:Bool} {t:Int} {f:lu}:∀ {l:List bH},f∈pR note t l→bB f.items≤eG l
 | [],hf=>by simp [pR] at hf
 | x :: l,hf=>by
  rw [pR] at hf
  simp only [eG,dW,eu]
  rcases rU.1 hf with hf|hf
  ·have:=aqy hf;simp only [bB] at *;omega
  have:=adR hf;simp only [bB,eG] at *;omega
theorem aqy {note:Bool} {t:Int} {f:lu}:∀ {x:bH},f∈zQ note t x→bB f.items≤dh x.dat
 | .mk h cs,hf=>by
  have h4:=tY (.mk h cs)
  simp only [bH.head,bH.cells] at h4
  rw [zQ] at hf;have:=adN hf;omega
theorem adN {note:Bool} {t:Int} {f:lu}:∀ {l:List bq},f∈qz note t l→bB f.items≤iC l
 | [],hf=>by simp [qz] at hf
 | x :: l,hf=>by
  rw [qz] at hf
  simp only [iC,dW,eu]
  rcases rU.1 hf with hf|hf
  ·have:=aqu hf;simp only [bB] at *;omega
  have:=adN hf;simp only [bB,iC] at *;omega
theorem aqu {note:Bool} {t:Int} {f:lu}:∀ {x:bq},f∈zO note t x→bB f.items≤dh x.dat
 | .mk i h fl,hf=>by
  have h4:=uX (.mk i h fl)
  simp only [bq.head,bq.flow] at h4
  rw [zO] at hf
  rcases nG.1 hf with rfl|hf
  ·show bB fl≤_;omega
  have:=Qw hf;omega
end
theorem Ow {f:lu} {l:List aC} (h:f∈gK l):bB f.items≤bB l:=by
 rcases nG.1 h with rfl|h
 ·exact dB _
 exact Qw h
theorem aiu {α:Type} {p:α→Bool} {A:List α} {k:Nat} (hk:k < A.length) (h:(A.take k).find? p=none) (hp:p A[k]=false):(A.take (k+1)).find? p=none:=by
 rw [lG hk,List.find?_append,h]
 simp [hp]
theorem Zy {α:Type} {p:α→Bool} {A:List α} {k:Nat} (hk:k < A.length) (h:(A.take k).find? p=none) (hp:p A[k]=true):A.find? p=some A[k]:=by
 have e:A.find? p=(A.take k++A.drop k).find? p:=by rw [List.take_append_drop]
 rw [e,List.find?_append,h,jw hk,List.find?_cons,hp]
 rfl
theorem ais {α:Type} {p:α→Bool} {A:List α} (h:(A.take A.length).find? p=none):A.find? p=none:=by rwa [zZ] at h
theorem Ov {A:List lu} {k:Nat} {args:List aj} {g:GH} (h:xH (A.map DK) k args g):∃ (hk:k < A.length) (a:Option Addr) (n c:Nat),args=[vi A[k].id,.agg #[.slice a n c,.bool A[k].body,.bool A[k].note,vi A[k].tables]]∧aB g (.sl 11 (A[k].items.map aC.dat)) (.slice a n c):=by
 obtain ⟨p,hp,hargs⟩:=h;rw [oQ] at hp;obtain ⟨q,hq,rfl⟩:=oD.1 hp;obtain ⟨hk,rfl⟩:=kG.1 hq;obtain ⟨v,h1,h2⟩:=hargs;obtain ⟨a,n,c,rfl⟩:=h2.form;exact ⟨hk,a,n,c,h1,h2⟩
end
section
open Go.RowKit
theorem apX:Ty prog 172 1 8 [.nilFunc] false:=⟨by kernel_rfl,by kernel_rfl⟩
theorem Za:∀ args w,(callFunc 57 args).run prog w=.ok (.enter 57 args) w:=enters func57 rfl (by kernel_rfl)
theorem Ry:∀ args w,(callFunc 106 args).run prog w=.ok (.enter 106 args) w:=enters func106 rfl (by kernel_rfl)
theorem Jm:∀ args w,(callFunc 51 args).run prog w=.ok (.enter 51 args) w:=enters func51 rfl (by kernel_rfl)
theorem jN:prog.underlying 52=some (.slice 3):=by kernel_rfl
theorem xw:Ty prog 52 1 24 [.slice none 0 0] false:=⟨by kernel_rfl,by kernel_rfl⟩
theorem agq:∀ args w,(callFunc 108 args).run prog w=.ok (.enter 108 args) w:=enters func108 rfl (by kernel_rfl)
theorem MN {A:List Int} {k:Nat} {args:List aj} {g:GH} (h:xH (A.map CF) k args g):∃ hk:k < A.length,args=[vi A[k]]:=by
 obtain ⟨p,hp,hargs⟩:=h;rw [oQ] at hp;obtain ⟨q,hq,rfl⟩:=oD.1 hp;obtain ⟨hk,rfl⟩:=kG.1 hq;exact ⟨hk,hargs⟩
theorem alT {G G0:GH} {A:List Int} {b2:Nat} {fv:aj} {J:Nat→GH→OL→Prop} {Jx:GH→OL→Prop} (hcb:EA prog fv G0 (A.map CF) J Jx) (hG0:∀ b o,G0 b=some o→G b=some o) (D6:fv.cells=#[fv]) (hb:aF G b2 0=some fv) :
  EA prog (.func (.func 108) #[] #[(aP b2 0)]) G (A.map CF) J Jx:=by
 intro k args G1 L w0 hk hm hJ hO;obtain ⟨hk2,rfl⟩:=MN hk;refine nk (caps:=[(aP b2 0)]) agq ?_;replace hb:=aJ hm hb;refine kS (N:=7) (T:=[(0,_),(1,_)]) func108 rfl ntmps108 rfl rfl hO ?_;intro a H;refine kP H (SR fun _ K1=>ak K1 rfl (SR fun _ K2=>Rg apX rfl (by assumption) ?_));clear H K1;intro a H;refine kH H (Rm rfl ?_);clear H;intro a H;refine rP (Li:=[]) (L:=L) H wn rfl rfl (hcb _ _ _ _ _ hk (fun b o h=>hm b o (hG0 b o h)) hJ (Hp.owns (Li:=[]) H.hp)) rfl ?_;clear H;rintro v6 G6 L6 a w ⟨b6,rfl,h1,h2⟩ Eb H;exact kH H (ak K2 rfl (LR results108 rfl fun H=>H.hp.gB ⟨b6,rfl,h1,h2⟩))
theorem alV {G:GH} {bd:Nat} {D:jP} {l:List aC} (hb:G bd=some (.cells D.cells.toArray 38 (0,0))) (hv:aB G (.sl 11 (l.map aC.dat)) (bg D.f)) (hz:bB l≤4294967296) :
  Iter prog G (.func (.func 106) #[] #[(aP bd 0)]) ((fK l).map CF):=by
 intro J Jx fv G1 L w0 D6 hGi mM hJx hJ hO hcb;refine nk (caps:=[(aP bd 0)]) Ry ?_;have hfl:aF G1 bd 0=some (bg D.f):=aJ hGi (by unfold aF;rw [hb];rfl);refine kS (N:=7) (T:=[(0,_),(1,_)]) func106 rfl ntmps106 rfl rfl hO ?_;intro a H;refine cO (fun _ K1=>?_);refine fD (cs:=[fv]) H wn rfl D6 rfl ?_;clear H;intro b2 a w hb2 H;refine K1 _ _ ?_;clear K1;obtain ⟨G2,hm2,hb2,H⟩:=H.eD;replace hfl:=aJ hm2 hfl;refine kP H (SC (Rf Bf rfl (Rg jy rfl (by assumption) ?_)));clear H;intro a H;refine pO H wn rfl rfl ?_;clear H;intro a H;refine gW Rz (Li:=[]) (L:=L) H wn rfl (adK 4294967297 (by omega) _ G2 ((fK l).map CF) J Jx G2 _ _ 0 l _ (fun _ _ h=>h) (alT (b2:=b2) hcb hm2 D6 (by unfold aF;rw [hb2];rfl)) mM hJx (mM _ _ _ _ hm2 hJ) (Hp.owns (Li:=[]) H.hp) ((hv.mono hGi).mono hm2) (by omega) (fun i a h=>by rw [ng,oQ,h];rfl)) rfl ?_;clear H;rintro v6 G6 L6 a w ⟨b6,rfl,h1,h2⟩ Eb H;refine aH ?_;refine (leave0 H results106 ?_).2
 cases b6
 ·exact H.hp.gB (.inr (h2 rfl))
 exact H.hp.gB (.inl (by simpa using h1 rfl))
theorem abk (G:GH) (w0:World) (hG:Hold G w0) (D:jP) (l:List aC) (hv:aB G (.sl 11 (l.map aC.dat)) (bg D.f)) (hz:bB l≤4294967296) :
  Calls prog 57 #[D.val] w0 (bV w0 G fun v G'=>∃ bd,v=.func (.func 106) #[] #[(aP bd 0)]∧Iter prog G' v ((fK l).map CF)):=by
 refine eN [(0,_)] func57 rfl ntmps57 rfl rfl hG ?_;intro a H;refine cO (fun _ K1=>?_);refine fD (cs:=[_,_,_,_,_,_,_,_,_,_,_]) H wn rfl rfl rfl ?_;clear H;intro b1 a w hb1 H;refine kH H (ak K1 rfl (SR fun _ K2=>?_));clear H K1;intro a H;refine pO H wn rfl rfl ?_;clear H;intro a H;refine kH H (ak K2 rfl ?_);clear H K2;intro a H;refine dK ?_;obtain ⟨G2,hm2,hb2,H⟩:=H.eD;refine lv H results57 rfl ?_;exact H.rt ⟨b1,rfl,alV hb2 (hv.mono hm2) hz⟩
def qO (l:List Int):Int:=l.foldl max 0
theorem amV {l:List Int} {k:Nat} (h:k < l.length):qO (l.take (k+1))=max (qO (l.take k)) l[k]:=by
 rw [qO,lG h,List.foldl_append];rfl
theorem ZB (G:GH) (w0:World) (hG:Hold G w0) (D:jP) (l:List aC) (hv:aB G (.sl 11 (l.map aC.dat)) (bg D.f)) (hz:bB l≤4294967296) (hm:qO (fK l)≤4611686018427387904) (h0:0≤qO (fK l)) :
  Calls prog 20 #[D.val] w0 (bV w0 G fun v G'=>v=vi (qO (fK l)+1)):=by
 refine eN [(0,_)] func20 rfl ntmps20 rfl rfl hG ?_;intro a H;refine cO (fun _ K1=>?_);refine fD (cs:=[_,_,_,_,_,_,_,_,_,_,_]) H wn rfl rfl rfl ?_;clear H;intro b1 a w hb1 H;refine kH H (ak K1 rfl (SR fun _ K2=>?_));clear H K1;intro a H;refine dY aD H wn rfl ?_;clear H;intro b3 a w hb3 H;refine bT aD 0 (vs:=[_]) _ H wn rfl rfl rfl rfl rfl rfl rfl rfl ?_;clear H;intro w H;dsimp only [List.set,setRow] at H;refine K2 _ _ ?_;clear K2;refine aN (fun _ K3=>?_);refine cO (fun _ K4=>?_);refine bK lV (cs:=[_,_,_,_,_,_,_,_,_,_,_]) H wn rfl rfl (H.hp.fG 1 rfl rfl) rfl ?_;clear H;intro a H;refine s_call Za H wn rfl (abk _ _ H.ro D l hv hz) rfl ?_;clear H;rintro v6 G6 a w ⟨bd,rfl,hit⟩ Eb H;refine K4 _ _ ?_;clear K4;refine uy ?_;skip;refine Dw (ι:=Unit) (κ:=Empty) (Lc:=[(_,_)]) (fun (k:Nat) (gh:Unit)=>[(b3,.cells #[vi (qO ((fK l).take k))] 3 (0,0))]) (fun (k:Nat) (gh:Unit)=>[]) (fun (k:Nat) (gh:Unit) (g:GH)=>True) (fun x=>x.elim) (fun x=>x.elim) (fun x=>x.elim) (fun x=>x.elim) (()) (by exact H.dx (Pl:=[_,_]) (bZ:=[_,_]) [1,0] (by decide) rfl) rfl Ry (hit) (fun _ _ h=>h) rfl (fun k args g h=>by obtain ⟨_,rfl⟩:=MN h;rfl) (fun _ _ _ _ _ h=>h) (fun x=>x.elim) (trivial) ?_ ?_ ?_
 ·clear H;intro l3 xg uw bk k args gh G3 w3 F3 B3 a hk3 rJ hI Hz Ia U1 H;obtain ⟨hk,rfl⟩:=MN hk3;dsimp only [tu,List.cons_append,List.nil_append] at H;refine kP H (SC (Ra rfl ?_));clear H;intro a H;refine aH ?_;refine Hz _ _ _ _ _ _ (by exact H) ?_;clear H;intro w H;refine kP H (SB (SC (Ro aD 2 rfl (Rm rfl ?_))));clear H;intro a H;refine FR H wn rfl rfl rfl ?_;clear H;intro a H;rw [← amV hk] at H;refine bT aD 2 (vs:=[_]) _ H wn rfl rfl rfl rfl rfl rfl rfl rfl ?_;clear H;intro w H;dsimp only [List.set,setRow] at H;refine aH ?_;refine Ia (()) _ _ _ _ _ (by exact H) ?_
  trivial
 ·clear H;intro QB gh QF a w rJ hI H;dsimp only [lca,aO] at H;refine K3 _ _ ?_;clear K3;refine aN (fun _ K5=>?_);rw [mF (by simp)] at H;refine kP H (SC (Ro aD 2 rfl (Rd rfl (aL K5 rfl ?_))));clear H K5;intro a H;refine dK ?_;refine (Am H 0 rfl ?_).1;clear H;intro a w H;dsimp only [List.eraseIdx_cons_succ,List.eraseIdx_cons_zero] at H;refine lv H results20 rfl ?_;exact H.rt rfl
 intro Dk x;exact x.elim
theorem amh (G:GH) (n:Int):bM G [li n] [vi n]:=by simp [bM,aB,Value.oneCell']
def og (A:List lu):Int:=A.foldl (fun n f=>n+uO f.items) 0
theorem Ni {A:List lu} {k:Nat} (h:k < A.length):og (A.take (k+1))=og (A.take k)+uO A[k].items:=by
 rw [og,lG h,List.foldl_append];rfl
theorem adz (G:GH) (w0:World) (hG:Hold G w0) (D:jP) (l:List aC) (hv:aB G (.sl 11 (l.map aC.dat)) (bg D.f)) (hz:bB l≤4294967296) (hm:∀ k,k≤(gK l).length→0≤og ((gK l).take k)∧og ((gK l).take k)≤4611686018427387904) :
  Calls prog 21 #[D.val] w0 (bV w0 G fun v G'=>v=vi (og (gK l))):=by
 refine eN [(0,_)] func21 rfl ntmps21 rfl rfl hG ?_;intro a H;refine cO (fun _ K1=>?_);refine fD (cs:=[_,_,_,_,_,_,_,_,_,_,_]) H wn rfl rfl rfl ?_;clear H;intro b1 a w hb1 H;refine kH H (ak K1 rfl (SR fun _ K2=>?_));clear H K1;intro a H;refine dY aD H wn rfl ?_;clear H;intro b3 a w hb3 H;refine bT aD 0 (vs:=[_]) _ H wn rfl rfl rfl rfl rfl rfl rfl rfl ?_;clear H;intro w H;dsimp only [List.set,setRow] at H;refine K2 _ _ ?_;clear K2;refine aN (fun _ K3=>?_);refine cO (fun _ K4=>?_);refine bK lV (cs:=[_,_,_,_,_,_,_,_,_,_,_]) H wn rfl rfl (H.hp.fG 1 rfl rfl) rfl ?_;clear H;intro a H;refine s_call Y7 H wn rfl (acd _ _ H.ro D l hv hz) rfl ?_;clear H;rintro v9 G9 a w ⟨ba,bl,bp,rfl,hit⟩ JL H;refine K4 _ _ ?_;clear K4;refine uy ?_;skip;refine Dw (ι:=Unit) (κ:=Empty) (Lc:=[(_,_)]) (fun (k:Nat) (gh:Unit)=>[(b3,.cells #[vi (og ((gK l).take k))] 3 (0,0))]) (fun (k:Nat) (gh:Unit)=>[]) (fun (k:Nat) (gh:Unit) (g:GH)=>True) (fun x=>x.elim) (fun x=>x.elim) (fun x=>x.elim) (fun x=>x.elim) (()) (by exact H.dx (Pl:=[_,_]) (bZ:=[_,_]) [1,0] (by decide) rfl) rfl RG (hit) (fun _ _ h=>h) rfl (fun k args g h=>by obtain ⟨_,_,_,_,rfl,_⟩:=Ov h;rfl) (fun _ _ _ _ _ h=>h) (fun x=>x.elim) (trivial) ?_ ?_ ?_
 ·clear H;intro l3 xg uw bk k args gh G3 w3 F3 B3 a hk3 rJ hI Hz Ia U1 H;obtain ⟨hk,vA,vn,vc,rfl,hfr⟩:=Ov hk3;dsimp only [tu,List.cons_append,List.nil_append] at H;refine rz ?_;refine dY adp H wn rfl ?_;clear H;intro b5 a w hb5 H;refine bT adp 0 (vs:=[_,_,_,_]) _ H wn rfl rfl rfl rfl rfl rfl rfl rfl ?_;clear H;intro w H;dsimp only [List.set,setRow] at H;refine aH ?_;refine Hz _ _ _ _ _ _ (by exact H.dx (Pl:=[_,_,_,_]) (bZ:=[_,_,_,_]) [1,0,2,3] (by decide) rfl) ?_;clear H;intro w H;refine kP H (SB (SR fun _ K5=>aR ain jy 1 rfl rfl ?_));clear H;intro a H;refine s_call Jm H wn rfl (J4 _ _ H.ro (gK l)[k].items _ hfr (Nat.le_trans (Ow (jD hk)) hz)) rfl ?_;clear H;rintro v15 _ a w ⟨rfl,rfl⟩ - H;refine kH H (Rm rfl ?_);clear H;intro a H;(iterate 2 refine nQ H wn rfl rfl rfl ?_;clear H;intro a H);refine kH H (Ra rfl (ak K5 rfl ?_));clear H K5;intro a H;have TY:=hm (k+1) hk;rw [Ni hk] at TY;refine kP H (SC (Ro aD 3 rfl (Rm rfl (Rd rfl ?_))));clear H;intro a H;rw [← Ni hk] at H;refine bT aD 3 (vs:=[_]) _ H wn rfl rfl rfl rfl rfl rfl rfl rfl ?_;clear H;intro w H;dsimp only [List.set,setRow] at H;refine aH ?_;refine Ia (()) _ _ _ _ _ (by exact H.dx (Pl:=[_,_,_,_]) (bZ:=[_,_,_]) [0,2,3] (by decide) rfl) ?_
  trivial
 ·clear H;intro QB gh QF a w rJ hI H;dsimp only [lca,aO] at H;refine K3 _ _ ?_;clear K3;refine aN (fun _ K6=>?_);rw [mF (by simp)] at H;refine kP H (SC (Ro aD 2 rfl (aL K6 rfl ?_)));clear H K6;intro a H;refine dK ?_;refine (Am H 0 rfl ?_).1;clear H;intro a w H;dsimp only [List.eraseIdx_cons_succ,List.eraseIdx_cons_zero] at H;refine lv H results21 rfl ?_;exact H.rt rfl
 intro Dk x;exact x.elim
mutual
theorem aqv (note:Bool) (t:Int):∀ x:aC,(zP note t x).length < dh x.dat
 | .mk k c i tx h f r=>by
  have h4:=oN (.mk k c i tx h f r);have hf:=Ew true t f;have hr:=adQ note t r;dsimp only [aC.text,aC.head,aC.flow,aC.rows] at h4;rw [zP]
  split
  ·rw [jZ];omega
  split <;> first|omega|(simp only [List.length_nil];omega)
theorem Ew (note:Bool) (t:Int):∀ l:List aC,(jO note t l).length≤bB l
 | []=>by simp [jO]
 | x :: l=>by
  have h1:=aqv note t x;have h2:=Ew note t l;rw [jO,jC]
  simp only [bB,dW,eu] at *;omega
theorem aqx (note:Bool) (t:Int):∀ x:bH,(zQ note t x).length≤dh x.dat
 | .mk h cs=>by
  have h4:=tY (.mk h cs);have hc:=adM note t cs;dsimp only [bH.head,bH.cells] at h4;rw [zQ];omega
theorem adQ (note:Bool) (t:Int):∀ l:List bH,(pR note t l).length≤eG l
 | []=>by simp [pR]
 | x :: l=>by
  have h1:=aqx note t x;have h2:=adQ note t l;rw [pR,jC]
  simp only [eG,dW,eu] at *;omega
theorem aqt (note:Bool) (t:Int):∀ x:bq,(zO note t x).length≤dh x.dat
 | .mk i h f=>by
  have h4:=uX (.mk i h f);have hf:=Ew note (t+1) f;dsimp only [bq.head,bq.flow] at h4;rw [zO,jZ];omega
theorem adM (note:Bool) (t:Int):∀ l:List bq,(qz note t l).length≤iC l
 | []=>by simp [qz]
 | x :: l=>by
  have h1:=aqt note t x;have h2:=adM note t l;rw [qz,jC]
  simp only [iC,dW,eu] at *;omega
end
theorem agh (G:GH) (w0:World) (hG:Hold G w0) (D:jP) (l:List aC) (hv:aB G (.sl 11 (l.map aC.dat)) (bg D.f)) (hz:bB l≤4294967296) :
  Calls prog 28 #[D.val] w0 (bV w0 G fun u G'=>aB G' (.sl 1 ((gK l).map fun f:lu=>[li f.id])) u):=by
 have hml:4294967299≤maxLen:=by decide
 have hn:(gK l).length≤4294967297:=by
  have:=Ew false 0 l;rw [gK,jZ];omega
 refine eN [(0,_)] func28 rfl ntmps28 rfl rfl hG ?_;intro a H;refine cO (fun _ K1=>?_);refine fD (cs:=[_,_,_,_,_,_,_,_,_,_,_]) H wn rfl rfl rfl ?_;clear H;intro b1 a w hb1 H;refine kH H (ak K1 rfl (SR fun _ K2=>?_));clear H K1;intro a H;refine dY xw H wn rfl ?_;clear H;intro b3 a w hb3 H;refine K2 _ _ ?_;clear K2;refine aN (fun _ K3=>?_);refine aN (fun _ K4=>?_);have H:=H.dx (Pl:=[_,_]) (bZ:=[_,_]) [1,0] (by decide) rfl;refine rz ?_;refine bK lV (cs:=[_,_,_,_,_,_,_,_,_,_,_]) H wn rfl rfl (H.hp.fG 0 rfl rfl) rfl ?_;clear H;intro a H;refine s_call Y7 H wn rfl (acd _ _ H.ro D l hv hz) rfl ?_;clear H;rintro v6 G6 a w ⟨ba,bl,bp,rfl,hit⟩ Eb H;refine aH ?_;refine K4 _ _ ?_;clear K4;refine uy ?_;skip;refine Dw (ι:=aj × List aj × OL) (κ:=Empty) (Lc:=[(_,_)]) (fun (k:Nat) (gh:aj × List aj × OL)=>[(b3,.cells #[gh.1] 52 (0,0))]) (fun (k:Nat) (gh:aj × List aj × OL)=>gh.2.2) (fun (k:Nat) (gh:aj × List aj × OL) (g:GH)=>gJ 3 1 gh.1 k gh.2.1 gh.2.2∧gP g 1 (((gK l).take k).map fun f:lu=>[li f.id]) gh.2.1) (fun x=>x.elim) (fun x=>x.elim) (fun x=>x.elim) (fun x=>x.elim) ((.slice none 0 0,[],[])) (by exact H.Vq (A:=[_,_])) rfl RG (hit) (fun _ _ h=>h) rfl (fun k args g h=>by obtain ⟨_,_,_,_,rfl,_⟩:=Ov h;rfl) (fun k i G G' hm h=>⟨h.1,h.2.mono hm⟩) (fun x=>x.elim) (⟨gJ.nil,gP.nil⟩) ?_ ?_ ?_
 ·clear H;intro l3 xg uw bk k args gh G3 w3 F3 B3 a hk3 rJ hI Hz Ia U1 H;obtain ⟨v,xs,Lo⟩:=gh;dsimp only at hI H;obtain ⟨hk,vA,vn,vc,rfl,hfr⟩:=Ov hk3;dsimp only [tu,List.cons_append,List.nil_append] at H;obtain ⟨hrw,oK⟩:=hI;refine kP H (SC (Ra rfl ?_));clear H;intro a H;refine aH ?_;refine Hz _ _ _ _ _ _ (by exact H) ?_;clear H;intro w H;refine kP H (SB (SC (Ro xw 2 rfl (Rm rfl ?_))));clear H;intro a H;refine jd jN aD [_] [_] H wn rfl rfl rfl rfl rfl (by intro i q h;match i,h with|0,h=>exact h|n+1,h=>simp at h) rfl rfl ?_;clear H;intro b11 a w Hu H;refine Aw (Li:=[_,_,_,_]++bk) (Lo:=Lo) (news:=[vi (gK l)[k].id]) jN aD rfl rfl (St.un (A:=[_,_,_,_]) H) wn rfl rfl hrw rfl (H.hp.fG 0 rfl rfl) rfl (by omega) (by omega) rfl ?_;clear H;intro v12 aep a w aaJ H;obtain ⟨A12,c12,rfl,-,-⟩:=aaJ.shape
  simp only [iQ,mE,jB] at H
  refine bT xw 3 (vs:=[_]) _ H wn rfl rfl rfl rfl rfl rfl rfl rfl ?_;clear H;intro w H;dsimp only [List.set,setRow] at H;refine aH ?_;refine Ia ((.slice A12 (k+1) c12,xs++[vi (gK l)[k].id],aep)) _ _ _ _ _ (by exact H.dx (Pl:=[_,_,_,_]) (bZ:=[_,_,_]) [1,2,3] (by decide) rfl) ?_;exact ⟨aaJ,by rw [lG hk,kZ];exact oK.snoc (amh _ _) rfl⟩
 ·clear H;intro QB gh QF a w rJ hI H;obtain ⟨v,xs,Lo⟩:=gh;dsimp only at hI H;dsimp only [lca,aO] at H;obtain ⟨hrw,oK⟩:=hI;rw [bN] at hrw oK;rw [zZ] at oK;refine K3 _ _ ?_;clear K3;refine kP H (SR fun _ K5=>Ro xw 2 rfl (ak K5 rfl ?_));clear H K5;intro a H;refine dK ?_;refine (Am H 0 rfl ?_).1;clear H;intro a w H;dsimp only [List.eraseIdx_cons_succ,List.eraseIdx_cons_zero] at H;refine lv H results28 rfl ?_;obtain ⟨Gr,hmr,hrep,H⟩:=St.DL (Li:=[_,_]) H hrw (rows:=(gK l).map fun f:lu=>[li f.id]) (by simp) oK;exact H.rt hrep
 intro Dk x;exact x.elim
theorem ady (l:List aC) (hz:bB l≤1073741824) (k:Nat) (hk:k≤(gK l).length):0≤og ((gK l).take k)∧og ((gK l).take k)≤4611686018427387904:=by
 have hn:=Ew false 0 l
 have hl:(gK l).length≤1073741825:=by rw [gK,jZ];omega
 have h:∀ k,k≤(gK l).length→0≤og ((gK l).take k)∧og ((gK l).take k)≤k*1073741824:=by
  intro k
  induction k with
  | zero=>intro _;exact ⟨by simp [og],by simp [og]⟩
  | succ k ih =>
   intro hk;obtain ⟨h1,h2⟩:=ih (by omega);have h3:=Ow (jD (show k < (gK l).length by omega))
   have h4:0≤uO (gK l)[k].items∧uO (gK l)[k].items≤bB (gK l)[k].items:=by
    unfold uO
    have h5:=Wm (gK l)[k].items;have h6:=Wt (gK l)[k].items
    split <;> omega
   rw [Ni (by omega)]
   push_cast
   omega
 obtain ⟨h1,h2⟩:=h k hk;exact ⟨h1,by omega⟩
end
section
open Go.RowKit
abbrev jf (l:List Int):List (Int × aj):=l.map fun q=>(q,.bool true)
theorem Qi (l:List Int):(jf l).map (·.1)=l:=by rw [List.map_map];simp [Function.comp_def]
theorem apb (l r:List Int):jf (l++r)=jf l++jf r:=kZ
theorem PL:∀ (i:Nat) (l:List (Int × aj)),(jr i l).map (·.key)=l.map fun x=>Value.int .i64 x.1
 | _,[]=>rfl
 | i,(k,v) :: r=>by rw [jr,dW,dW,PL (i+1) r]
theorem Vl:∀ (i:Nat) (l:List (Int × aj)),(jr i l).map (·.born)=List.range' i l.length
 | _,[]=>rfl
 | i,(k,v) :: r=>by rw [jr,dW,Vl (i+1) r];rfl
theorem abO:∀ (i n:Nat) (l:List (Int × aj)),(jr i l)[n]?=(l[n]?).map fun x=>⟨.int .i64 x.1,x.2,i+n⟩
 | _,_,[]=>rfl
 | i,0,(k,v) :: r=>rfl
 | i,n+1,(k,v) :: r=>by rw [jr,List.getElem?_cons_succ,List.getElem?_cons_succ,abO (i+1) n r,show i+1+n=i+(n+1) by omega]
theorem abQ {l:List (Int × aj)} (h:(l.map (·.1)).Nodup):MapKept.Stamped (jr 0 l).toArray l.length:=by
 refine ⟨fun x hx=>?_,?_,?_⟩
 ·have h1:=List.mem_map_of_mem (f:=(·.born)) hx
  rw [Vl] at h1
  have:=List.mem_range'_1.1 h1
  omega
 ·show ((jr 0 l).map (·.born)).Nodup
  rw [Vl];exact List.nodup_range'
 ·show ((jr 0 l).map (·.key)).Nodup
  rw [PL,show (fun x:Int × aj=>Value.int .i64 x.1)=Value.int .i64 ∘ (·.1) from rfl,← List.map_map]
  exact List.pairwise_map.2 (h.imp fun hne e=>hne (by injection e))
theorem Sr (x:Int):∀ (i j:Nat) (l:List Int),∃ an,Instr.findNow (.int .i64) (.int .i64 x) (jr i (jf l)) j=some an∧((x∈l∧∃ n,an=some (j+n,.bool true)∧l[n]?=some x)∨(x∉l∧an=none))
 | _,_,[]=>⟨none,rfl,.inr ⟨by simp,rfl⟩⟩
 | i,j,k :: r=>by
  by_cases e:k=x
  ·subst e
   exact ⟨some (j,.bool true),by simp only [jf,dW,jr,Instr.findNow,Instr.sameNow,au,beq_self_eq_true],.inl ⟨jg,0,rfl,rfl⟩⟩
  ·have hb:(x == k)=false:=by simp;exact fun h=>e h.symm
   obtain ⟨an,h1,h2⟩:=Sr x (i+1) (j+1) r
   refine ⟨an,by simpa only [jf,dW,jr,Instr.findNow,Instr.sameNow,au,hb] using h1,?_⟩
   rcases h2 with ⟨h3,n,h4,h5⟩|⟨h3,h4⟩
   ·exact .inl ⟨sW _ h3,n+1,by rw [h4,show j+1+n=j+(n+1) by omega],h5⟩
   ·exact .inr ⟨fun h=>(nG.1 h).elim (fun h=>e h.symm) h3,h4⟩
theorem Vm {α β:Type} (f:α→β):∀ (l:List α) (j:Nat),(l.eraseIdx j).map f=(l.map f).eraseIdx j
 | [],_=>rfl
 | x :: l,0=>rfl
 | x :: l,j+1=>by rw [List.eraseIdx_cons_succ,dW,dW,List.eraseIdx_cons_succ,Vm f l j]
def yS (l:List Int) (x:Int):List Int:=if x∈l then l else l++[x]
theorem aeG {l:List Int} {x y:Int}:y∈yS l x↔y∈l∨y=x:=by
 unfold yS
 split
 ·rename_i h
  exact ⟨.inl,fun h2=>h2.elim id fun e=>e ▸ h⟩
 ·simp
theorem aeH {l:List Int} {x:Int} (h:l.Nodup):(yS l x).Nodup:=by
 unfold yS
 split
 ·exact h
 ·rename_i hx
  exact List.nodup_append.2 ⟨h,List.pairwise_singleton _ _,fun a ha b hb e=>hx (by rw [um] at hb;rw [← hb,← e];exact ha)⟩
section
variable {N:Nat} {D:List Deferred} {w0:World} {F:Nat→Prop} {G0 G:GH} {L:OL} {T:List (Nat × aj)}
variable {r:Option Nat} {P:Program} {ops:Array Oper} {Q:Exit→Act→World→Prop} {rest:List Oper} {a:Act} {w:World}
variable {d:Nat} {ty:TypeId} {pos:String} {aS:Array Edge} {g:Option (Nat × Bool)}
theorem VZ {t kt et:TypeId} {x y z:Operand} {b i:Nat} {l:List Int} {ky:Int} (hm:P.underlying t=some (.map kt et)) (hk:P.underlying kt=some (.int .i64)) (H:St N D w0 F G0 G L T a w)
  (hw:Region.wanted ⟨none,.mapUpdate t x y z,ty,pos,aS,g⟩ (yielded ops a.tmps)=true) (hx:ev T x=some (.map (some b))) (hy:ev T y=some (.int .i64 ky)) (hzv:ev T z=some (.bool true)) (hi:L[i]?=some (b,fF (jf l)))
  (k:∀ w',St N D w0 F G0 G (L.set i (b,fF (jf (yS l ky)))) T a w'→WL r P ops Q rest a w'):WL r P ops Q (⟨none,.mapUpdate t x y z,ty,pos,aS,g⟩ :: rest) a w:=by
 obtain ⟨an,hf,han⟩:=Sr ky 0 0 l
 rcases han with ⟨hm2,n,rfl,hn⟩|⟨hm2,rfl⟩
 ·have hkey:MapKept.IsKey (.int .i64) (.int .i64 ky):=by trivial
  have hb:w.heap[b]?=some (.map (jr 0 (jf l)).toArray (jf l).length):=H.hp.own _ (nH hi)
  have h1:=MapKept.run_checkKey (P:=P) (w:=w) hk hkey false 9999
  have h2:=MapKept.run_findKey (P:=P) (w:=w) (l:=(jr 0 (jf l)).toArray.toList) hk (by simpa using hf)
  have h3:=MapKept.run_keyThatStays (P:=P) (w:=w) hkey
  have hgn:(jr 0 (jf l))[n]?=some ⟨.int .i64 ky,.bool true,0+n⟩:=by
   rw [abO];unfold jf;rw [oQ,hn];rfl
  have hg:((jr 0 (jf l)).toArray[n]?.map (·.key)).getD (.int .i64 ky)=.int .i64 ky:=by
   rw [List.getElem?_toArray,hgn];rfl
  have hmod:(jr 0 (jf l)).toArray.modify n (fun e=>{ e with key:=.int .i64 ky,val:=.bool true })=(jr 0 (jf l)).toArray:=by
   apply Array.ext_getElem?
   intro j
   rw [Array.getElem?_modify]
   by_cases hij:n=j
   ·subst hij
    rw [au rfl,List.getElem?_toArray,hgn];rfl
   ·rw [ah hij]
  have ha:yS l ky=l:=by unfold yS;rw [au hm2]
  rw [ha] at k
  refine WI (w':={ w with heap:=w.heap.setIfInBounds b (fF (jf l)) }) hw rfl ?_ (k _ (H.move (H.hp.upd hi (WB hb))))
  show (execOp a.eval _).run P w=.ok _ { w with heap:=w.heap.setIfInBounds b (.map (jr 0 (jf l)).toArray (jf l).length) }
  generalize (jr 0 (jf l)).toArray=es at hb h2 hg hmod ⊢
  simp [execOp,Instr.mapUpdate,H.ev hx,H.ev hy,H.ev hzv,eY,oM hm,MapKept.run_getObj_map hb,h1,h2,hg,h3,hmod,MapKept.run_setObj_map _ hb,Result.andThen]
 ·refine Ko hm hk H hw hx hy hzv hi (J5 (by rw [Qi];exact hm2)) fun w' H'=>k w' ?_
  have ha:yS l ky=l++[ky]:=by unfold yS;rw [ah hm2]
  rw [ha,apb]
  exact H'
theorem aoI {t kt et:TypeId} {x y:Operand} {b i:Nat} {l:List Int} {ky:Int} (hm:P.underlying t=some (.map kt et)) (hk:P.underlying kt=some (.int .i64)) (hnd:l.Nodup) (H:St N D w0 F G0 G L T a w)
  (hw:Region.wanted ⟨none,.call { callee:=.builtin .delete,args:=#[x,y],argTypes:=#[t,kt] },ty,pos,aS,g⟩ (yielded ops a.tmps)=true) (hx:ev T x=some (.map (some b))) (hy:ev T y=some (.int .i64 ky)) (hi:L[i]?=some (b,fF (jf l)))
  (k:∀ es clock w',MapKept.Stamped es clock→es.toList.map (·.key)=(l.filter fun q=>decide (q≠ky)).map (Value.int .i64)→St N D w0 F G0 G (L.set i (b,.map es clock)) T a w'→WL r P ops Q rest a w'):WL r P ops Q (⟨none,.call { callee:=.builtin .delete,args:=#[x,y],argTypes:=#[t,kt] },ty,pos,aS,g⟩ :: rest) a w:=by
 obtain ⟨an,hf,han⟩:=Sr ky 0 0 l
 have hkey:MapKept.IsKey (.int .i64) (.int .i64 ky):=by trivial
 have hb:w.heap[b]?=some (.map (jr 0 (jf l)).toArray (jf l).length):=H.hp.own _ (nH hi)
 have hst:=abQ (l:=jf l) (by rw [Qi];exact hnd)
 have hks:(jr 0 (jf l)).toArray.toList.map (·.key)=l.map (Value.int .i64):=by
  show (jr 0 (jf l)).map (·.key)=_
  rw [PL,List.map_map];rfl
 have h2:=fun es':Array MapEntry=>WB (o:=.map es' (jf l).length) hb
 have h3:=MapKept.run_findKey (P:=P) (w:=w) (l:=(jr 0 (jf l)).toArray.toList) hk (by simpa using hf)
 rcases han with ⟨hm2,n,rfl,hn⟩|⟨hm2,rfl⟩
 ·have hnl:n < l.length:=(kG.1 hn).1
  have hln:l[n]=ky:=(kG.1 hn).2
  have hsz:n < (jr 0 (jf l)).toArray.size:=by
   have:=ay List.length hks
   simp at this
   simp;omega
  have akj:((jr 0 (jf l)).toArray.eraseIdxIfInBounds n).toList=(jr 0 (jf l)).toArray.toList.eraseIdx n:=by
   unfold Array.eraseIdxIfInBounds
   rw [dif_pos hsz]
   simp
  refine ig (v:=.tuple #[]) (w':={ w with heap:=w.heap.setIfInBounds b (.map ((jr 0 (jf l)).toArray.eraseIdxIfInBounds n) (jf l).length) }) hw rfl ?_
   (k _ _ _ (MapKept.stamped_erase hst n) ?_ (H.move (H.hp.upd hi (h2 _))))
  ·generalize (jr 0 (jf l)).toArray=es at hb h3 ⊢
   have h1:=MapKept.run_checkKey (P:=P) (w:=w) hk hkey es.isEmpty 9999
   simp [execOp,resolve,invoke,builtin,Builtin.delete_,H.ev hx,H.ev hy,eY,oM hm,MapKept.run_getObj_map hb,h1,h3,MapKept.run_setObj_map _ hb,Result.andThen]
  ·rw [akj,Vm,hks,← Vm]
   congr 1
   have he:l.erase ky=l.eraseIdx n:=by
    have:=hnd.idxOf_getElem n hnl
    rw [hln] at this
    rw [← this];exact List.erase_eq_eraseIdx_of_idxOf rfl
   rw [← he,hnd.erase_eq_filter]
   exact List.filter_congr fun x _=>by by_cases h:x=ky <;> simp [h]
 ·refine ig (v:=.tuple #[]) (w':={ w with heap:=w.heap.setIfInBounds b (.map (jr 0 (jf l)).toArray (jf l).length) }) hw rfl ?_ (k _ _ _ hst ?_ (H.move (H.hp.upd hi (h2 _))))
  ·generalize (jr 0 (jf l)).toArray=es at hb h3 ⊢
   have h1:=MapKept.run_checkKey (P:=P) (w:=w) hk hkey es.isEmpty 9999
   simp [execOp,resolve,invoke,builtin,Builtin.delete_,H.ev hx,H.ev hy,eY,oM hm,MapKept.run_getObj_map hb,h1,h3,MapKept.run_setObj_map _ hb,Result.andThen]
  ·rw [hks,List.filter_eq_self.2 fun x hx=>iq (show ¬ x=ky from fun e=>hm2 (e ▸ hx))]
end
end
section
open Go.RowKit
theorem xB:prog.underlying 96=some (.map 3 4):=by kernel_rfl
theorem qU:Ty prog 96 1 8 [.map none] false:=⟨by kernel_rfl,by kernel_rfl⟩
theorem Zc:∀ args w,(callFunc 59 args).run prog w=.ok (.enter 59 args) w:=enters func59 rfl (by kernel_rfl)
theorem Zb:∀ args w,(callFunc 58 args).run prog w=.ok (.enter 58 args) w:=enters func58 rfl (by kernel_rfl)
theorem apC (G:GH) (w0:World) (hG:Hold G w0) (b bx:Nat) (l:List Int) (hbx:G bx=some (.cells #[.map (some b)] 96 (0,0))) (hb:w0.heap[b]?=some (fF (jf l))) (hn:l.Nodup) (hw:∀ k∈l,-9223372036854775808≤k∧k < 9223372036854775808) (hl:l.length≤4294967296) :
  Calls prog 58 #[.func (.func 111) #[] #[(aP bx 0)]] w0 (bV w0 G fun u G'=>aB G' (.sl 1 ((sP l).map fun k=>[li k])) u) :=
 acV G w0 hG b bx _ _ l hbx hb (abQ (by rw [Qi];exact hn)) (by show (jr 0 (jf l)).map (·.key)=_;rw [PL,List.map_map];rfl) hw hl
theorem anl {α:Type} {l:List α} (h:l.Nodup) {k:Nat} (hk:k < l.length):l[k]∉l.take k:=by
 intro hm;obtain ⟨i,hi,e⟩:=List.getElem_of_mem hm;rw [List.length_take] at hi;rw [List.getElem_take] at e;exact List.pairwise_iff_getElem.1 h i k (by omega) hk (by omega) e
theorem agi (G:GH) (w0:World) (hG:Hold G w0) (D:jP) (l:List aC) (hv:aB G (.sl 11 (l.map aC.dat)) (bg D.f)) (hz:bB l≤4294967296) (hn:(fK l).Nodup) (hw:∀ k∈fK l,-9223372036854775808≤k∧k < 9223372036854775808) (hl:(fK l).length≤4294967296) :
  Calls prog 19 #[D.val] w0 (bV w0 G fun u G'=>aB G' (.sl 1 ((sP (fK l)).map fun k=>[li k])) u):=by
 refine eN [(0,_)] func19 rfl ntmps19 rfl rfl hG ?_;intro a H;refine cO (fun _ K1=>?_);refine fD (cs:=[_,_,_,_,_,_,_,_,_,_,_]) H wn rfl rfl rfl ?_;clear H;intro b1 a w hb1 H;refine kH H (ak K1 rfl (SR fun _ K2=>?_));clear H K1;intro a H;refine FQ H wn rfl ?_;clear H;intro b5 a w hb5 H;refine dY qU H wn rfl ?_;clear H;intro b3 a w hb3 H;refine bT qU 0 (vs:=[_]) _ H wn rfl rfl rfl rfl rfl rfl rfl rfl ?_;clear H;intro w H;dsimp only [List.set,setRow] at H;refine K2 _ _ ?_;clear K2;refine aN (fun _ K3=>?_);refine cO (fun _ K4=>?_);refine bK lV (cs:=[_,_,_,_,_,_,_,_,_,_,_]) H wn rfl rfl (H.hp.fG 2 rfl rfl) rfl ?_;clear H;intro a H;refine s_call Za H wn rfl (abk _ _ H.ro D l hv hz) rfl ?_;clear H;rintro v7 G7 a w ⟨bd,rfl,hit⟩ yh H;refine K4 _ _ ?_;clear K4;refine uy ?_;skip;refine Dw (ι:=Unit) (κ:=Empty) (Lc:=[(_,_),(_,_)]) (fun (k:Nat) (gh:Unit)=>[(b5,fF (jf ((fK l).take k)))]) (fun (k:Nat) (gh:Unit)=>[]) (fun (k:Nat) (gh:Unit) (g:GH)=>True) (fun x=>x.elim) (fun x=>x.elim) (fun x=>x.elim) (fun x=>x.elim) (()) (by exact H.dx (Pl:=[_,_,_]) (bZ:=[_,_,_]) [0,2,1] (by decide) rfl) rfl Ry (hit) (fun _ _ h=>h) rfl (fun k args g h=>by obtain ⟨_,rfl⟩:=MN h;rfl) (fun _ _ _ _ _ h=>h) (fun x=>x.elim) (trivial) ?_ ?_ ?_
 ·clear H;intro l3 xg uw bk k args gh G3 w3 F3 B3 a hk3 rJ hI Hz Ia U1 H;obtain ⟨hk,rfl⟩:=MN hk3;dsimp only [tu,List.cons_append,List.nil_append] at H;refine kP H (SC (Ra rfl ?_));clear H;intro a H;refine aH ?_;refine Hz _ _ _ _ _ _ (by exact H) ?_;clear H;intro w H;refine kP H (SB (SC (Ro qU 1 rfl (Rm rfl ?_))));clear H;intro a H;refine Ko (i:=3) xB nD H wn rfl rfl rfl rfl (J5 (by rw [Qi];exact anl hn hk)) ?_;clear H;intro w H;dsimp only [List.set] at H;rw [show jf ((fK l).take k)++[((fK l)[k],Value.bool true)]=jf ((fK l).take (k+1)) from by rw [lG hk];unfold jf;rw [kZ];rfl] at H;refine aH ?_;refine Ia (()) _ _ _ _ _ (by exact H) ?_
  trivial
 ·clear H;intro QB gh QF a w rJ hI H;dsimp only [lca,aO] at H;refine K3 _ _ ?_;clear K3;refine aN (fun _ K5=>?_);rw [mF (by simp)] at H;refine kP H (SC (Ro qU 1 rfl ?_));clear H;intro a H;refine s_call Zc H wn rfl (abR _ _ H.ro _) rfl ?_;clear H;rintro v12 zU a w ⟨bx,rfl,hbx⟩ Cy H;refine s_call Zb H wn rfl (apC _ _ H.ro b5 bx _ hbx (H.hp.own (b5,fF (jf (fK l))) (by simp)) hn hw hl) rfl ?_;clear H;rintro v13 qB a w alJ ql H;refine kH H (aL K5 rfl ?_);clear H K5;intro a H;refine dK ?_;refine (Am H 0 rfl ?_).1;clear H;intro a w H;dsimp only [List.eraseIdx_cons_succ,List.eraseIdx_cons_zero] at H;refine lv H results19 rfl ?_;exact H.rt alJ
 intro Dk x;exact x.elim
end
section
open Go.RowKit
theorem Ih {α:Type} {p:α→Bool} {A:List α} {k:Nat} (hk:k < A.length) (h:(A.take k).findIdx? p=none) (hp:p A[k]=false):(A.take (k+1)).findIdx? p=none:=by
 rw [List.findIdx?_eq_none_iff] at h ⊢;rw [lG hk];intro x hx
 rcases rU.1 hx with hx|hx
 ·exact h x hx
 rw [um.1 hx];exact hp
theorem zy {α:Type} {p:α→Bool} {A:List α} {k:Nat} (hk:k < A.length) (h:(A.take k).findIdx? p=none) (hp:p A[k]=true):A.findIdx? p=some k:=by
 have e:A.findIdx? p=(A.take k++A.drop k).findIdx? p:=by rw [List.take_append_drop]
 rw [e,List.findIdx?_append,h,jw hk,List.findIdx?_cons,hp]
 simp;omega
end
section
open Go.RowKit
theorem RY:∀ args w,(callFunc 84 args).run prog w=.ok (.enter 84 args) w:=enters func84 rfl (by kernel_rfl)
theorem Oc:∀ args w,(callFunc 149 args).run prog w=.ok (.enter 149 args) w:=enters func149 rfl (by kernel_rfl)
theorem kE:Ty prog 48 2 16 [.int .i64 0,.int .i64 0] true:=⟨by kernel_rfl,by kernel_rfl⟩
theorem Kv:Ty prog 212 1 8 [.nilFunc] false:=⟨by kernel_rfl,by kernel_rfl⟩
theorem Kq:ug prog 48 [(0,1),(1,1)] [.int .i64 0,.int .i64 0]:=⟨by kernel_rfl,by kernel_rfl⟩
theorem YT:∀ args w,(callFunc 150 args).run prog w=.ok (.enter 150 args) w:=enters func150 rfl (by kernel_rfl)
theorem RN:∀ args w,(callFunc 193 args).run prog w=.ok (.enter 193 args) w:=enters func193 rfl (by kernel_rfl)
def sV (x:aC):Nat:=if x.kind=1 then xR x.text else 1
mutual
def FL (flow at_:Int):aC→List ((Int × Int) × aC)
 | .mk k c i t h f r=>if k=6 then ((flow,at_),.mk k c i t h f r) :: fZ i 0 f else if k=7 then ((flow,at_),.mk k c i t h f r) :: sN r else []
/-- The notes and tables of a flow, and those in them, with their positions. -/
def fZ (flow:Int):Int→List aC→List ((Int × Int) × aC)
 | _,[]=>[]
 | at_,x :: l=>FL flow at_ x++fZ flow (at_+sV x) l
def sN:List bH→List ((Int × Int) × aC)
 | []=>[]
 | r :: l=>Iy r++sN l
def Iy:bH→List ((Int × Int) × aC)
 | .mk _ cs=>jY cs
def jY:List bq→List ((Int × Int) × aC)
 | []=>[]
 | c :: l=>FK c++jY l
def FK:bq→List ((Int × Int) × aC)
 | .mk i _ f=>fZ i 0 f
end
def kL (x:aC):List bq:=if x.kind=7 then x.rows.flatMap bH.cells else [.mk x.id ⟨[],⟨0,0,[],[]⟩⟩ x.flow]
theorem acj (x:bq):FK x=fZ x.id 0 x.flow:=by cases x;simp [FK,bq.id,bq.flow]
theorem acp (x:bH):Iy x=jY x.cells:=by cases x;simp [Iy,bH.cells]
theorem acn:∀ a b:List bq,jY (a++b)=jY a++jY b
 | [],b=>by simp [jY]
 | x :: a,b=>by simp [jY,acn a b]
theorem acr:∀ l:List bH,sN l=jY (l.flatMap bH.cells)
 | []=>by simp [sN,jY]
 | x :: l=>by simp [sN,acp,acn,acr l]
theorem Kh (flow at_:Int) (x:aC):FL flow at_ x=if x.kind=6∨x.kind=7 then ((flow,at_),x) :: jY (kL x) else []:=by
 obtain ⟨k,c,i,t,h,f,r⟩:=x
 simp only [FL,kL,aC.kind,aC.rows,aC.id,aC.flow]
 by_cases h6:k=6
 ·subst h6;simp [jY,FK]
 by_cases h7:k=7
 ·subst h7;simp [acr]
 simp [h6,h7]
theorem abq {x:aC} {c:bq} (h:c∈kL x):bB c.flow < dh x.dat:=by
 have h4:=oN x
 unfold kL at h
 split at h
 ·obtain ⟨r,hr,hc⟩:=List.mem_flatMap.1 h;have h1:=aeg hr;have h2:=aec hc;have h3:=tY r;have h5:=uX c
  omega
 rw [um.1 h];show bB x.flow < _;omega
def Aq (a:(Int × Int) × aC):AP:=fun args g=>∃ cs,args=[.agg #[vi a.1.1,vi a.1.2],.agg cs.toArray]∧bM g a.2.dat cs
theorem CU {A:List ((Int × Int) × aC)} {k:Nat} {args:List aj} {g:GH} (h:xH (A.map Aq) k args g):∃ (hk:k < A.length) (cs:List aj),args=[.agg #[vi A[k].1.1,vi A[k].1.2],.agg cs.toArray]∧bM g A[k].2.dat cs:=by
 obtain ⟨p,hp,hargs⟩:=h;rw [oQ] at hp;obtain ⟨q,hq,rfl⟩:=oD.1 hp;obtain ⟨hk,rfl⟩:=kG.1 hq;exact ⟨hk,hargs⟩
def I8 (n:Nat):Prop:=∀ (G:GH) (l:List aC) (id:Int) (bl bi:Nat) (v:aj),bB l < n→aF G bl 0=some v→aF G bi 0=some (vi id)→aB G (.sl 11 (l.map aC.dat)) v →
 Iter prog G (.func (.func 149) #[] #[(aP bl 0),(aP bi 0)]) ((fZ id 0 l).map Aq)
theorem VJ {n:Nat} (ih:I8 n) (G:GH) (w0:World) (hG:Hold G w0) (l:List aC) (id:Int) (v:aj) (hz:bB l < n) (hv:aB G (.sl 11 (l.map aC.dat)) v) :
  Calls prog 84 #[vi id,v] w0 (bV w0 G fun u G'=>∃ bl bi,u=.func (.func 149) #[] #[(aP bl 0),(aP bi 0)]∧Iter prog G' u ((fZ id 0 l).map Aq)):=by
 obtain ⟨A,c,rfl,hc1,hc2,hg⟩:=hv.slice;refine eN [(0,_),(1,_)] func84 rfl ntmps84 rfl rfl hG ?_;intro a H;refine cO (fun _ K1=>?_);refine fD (cs:=[_]) H wn rfl rfl rfl ?_;clear H;intro b2 a w hb2 H;refine fD (cs:=[_]) H wn rfl rfl rfl ?_;clear H;intro b3 a w hb3 H;refine kH H (ak K1 rfl (SR fun _ K2=>?_));clear H K1;intro a H;refine pO H wn rfl rfl ?_;clear H;intro a H;refine kH H (ak K2 rfl ?_);clear H K2;intro a H;refine dK ?_;obtain ⟨G2,hm2,hb3,H⟩:=H.eD;obtain ⟨G3,rJ,hb2,H⟩:=H.eD;refine lv H results84 rfl ?_;exact H.rt ⟨b3,b2,rfl,ih _ _ _ _ _ _ hz (aJ rJ (by unfold aF;rw [hb3];rfl)) (by unfold aF;rw [hb2];rfl) (hv.mono fun b o h=>rJ _ _ (hm2 _ _ h))⟩
theorem Sy:∀ l:List bH,(l.flatMap bH.cells).length≤eG l
 | []=>dB _
 | x :: l=>by
  have h1:=Sy l;have h2:=Dc x.cells;have h3:=tY x
  simp only [List.flatMap_cons,jC,eG,dW,eu] at *;omega
theorem aqO (l:List bH) (k:Nat):eG (l.take k)≤eG l:=by
 have h:eG l=eG (l.take k++l.drop k):=by rw [List.take_append_drop]
 rw [h];simp only [eG,kZ,Qj];omega
theorem VH (c:bq) (l:List bq):jY (c :: l)=fZ c.id 0 c.flow++jY l:=by rw [jY,acj]
set_option maxHeartbeats 1000000 in
theorem aqD {n:Nat} (ih:I8 n) (hn:n≤4294967296) {G:GH} {x:aC} {bx:Nat} {cs:List aj} (hsz:dh x.dat≤n) (hb:G bx=some (.cells cs.toArray 68 (0,0))) (hv:bM G x.dat cs) :
  Iter prog G (.func (.func 193) #[] #[(aP bx 0)]) ((jY (kL x)).map Aq):=by
 intro J Jx fv G1 L w0 D6 hGi mM hJx hJ hO hcb;refine nk (caps:=[(aP bx 0)]) RN ?_;obtain ⟨pA,pn,pc,dA,dn,dc,yA,yn,yc,fA,fn,fc,rA,rn,rc,rfl,hh,hf,hr⟩:=hv.item;have hsz1:=oN x;have hrn:=hr.len;rw [bN] at hrn;subst hrn;have hrs:=Dh x.rows
 have hrow:∀ j u,[vi x.kind,vi x.code,vi x.id,.string x.text,.slice pA pn pc,vi x.head.marks.ins,vi x.head.marks.move,.slice dA dn dc,.slice yA yn yc,.slice fA fn fc,.slice rA x.rows.length rc][j]?=some u→aF G1 bx (0+j)=some u:=by
  intro j u hj;refine aJ hGi ?_
  unfold aF;rw [hb];simpa using hj
 have hfc:aF G1 bx 0=some (vi x.kind)∧aF G1 bx 2=some (vi x.id)∧aF G1 bx 9=some (.slice fA fn fc)∧aF G1 bx 10=some (.slice rA x.rows.length rc):=⟨hrow 0 _ rfl,hrow 2 _ rfl,hrow 9 _ rfl,hrow 10 _ rfl⟩;obtain ⟨hc0,hc2,hc9,arE⟩:=hfc
 have hml:4294967297≤maxLen:=by decide
 refine kS (N:=50) (T:=[(0,_),(1,_)]) func193 rfl ntmps193 rfl rfl hO ?_;intro a H;refine cO (fun _ K1=>?_);refine fD (cs:=[fv]) H wn rfl D6 rfl ?_;clear H;intro b2 a w hb2 H;refine K1 _ _ ?_;clear K1;refine kP H (SR fun _ K2=>Rf vE rfl (Rg aD rfl (by assumption) ?_));clear H;intro a H;refine kH H (Rf Bh rfl (Rg jy rfl (by assumption) ?_));clear H;intro a H;refine mq acW [_,_,_,_,_,_,_] H wn rfl rfl rfl rfl ?_;clear H;intro a H;refine jd lQ jK [_,_,_,_,_,_,_] [_,_,_,_,_,_,_] H wn rfl rfl rfl rfl rfl (by intro i q h;match i,h with|0,h=>exact h|n+1,h=>simp at h) rfl rfl ?_;clear H;intro b15 a w TW H;refine kH H (ak K2 rfl (SQ fun _ K3=>SR fun _ K4=>Rf gH rfl (Rg aD rfl (by assumption) ?_)));clear H K2;intro a H;refine kH H (Rc rfl (Kz K4 (Cd rfl ?_ ?_))) <;> clear H K4
 ·intro h18 a H
  try have tQ:=dT h18
  refine kP H (SR fun _ K5=>ak K5 rfl (SR fun _ K6=>Rf qH rfl (Rg qR rfl (by assumption) ?_)));clear H K5;intro a H;refine kH H (Rl jG rfl (Rm rfl (Kz K6 (SB ?_))));clear H K6;intro a H;skip;refine dV (ι:=Nat × aj × List aj × OL) (Tc:=[(2,_),(20,_),(21,_)]) (Lc:=[(_,_)]) (fun gh=>[(3,gh.2.1),(22,vi gh.1)]) (fun gh=>[]++(L++gh.2.2.2)) (fun gh=>G1) (fun gh=>gh.1≤x.rows.length∧gJ 147 7 gh.2.1 ((x.rows.take gh.1).flatMap bH.cells).length gh.2.2.1 gh.2.2.2∧gP G1 7 (((x.rows.take gh.1).flatMap bH.cells).map bq.dat) gh.2.2.1) (fun gh=>x.rows.length - gh.1) ((0,.slice none 0 0,[],[])) (by exact (St.Vq (A:=[_]) (H.dx (Pl:=[_,_]) (bZ:=[_]) [1] (by decide) rfl)).sub ⟨rfl,rfl,rfl,rfl,rfl,av⟩) ?_ ?_
  ·exact ⟨by omega,gJ.nil,by simpa using gP.nil⟩
  clear H;rintro ⟨rk,v3,xs,Lo⟩ a w hI H;dsimp only at hI H;obtain ⟨JU,hrw3,oK⟩:=hI;dsimp only [lca,aO] at H;refine kP H (SR fun _ K7=>Rc rfl (Kz K7 (SQ fun _ K8=>Cd rfl ?_ ?_))) <;> clear H K7
  ·intro h23 a H
   try have CP:=dT h23
   have hk2:rk < x.rows.length:=by omega
   obtain ⟨b,o,qA,qn,qc,eA,en,ec,zA,zn,zc,cA,cn,cc,rfl,hrow,vN,hcl⟩:=CW hk2 hr.at_;replace hrow:=fun j u hj=>aJ hGi (hrow j u hj);have ZY:=hcl.len;rw [bN] at ZY;subst ZY;have hsz2:=Sy (x.rows.take (rk+1));have FE:=aqO x.rows (rk+1);rw [lG hk2,List.flatMap_append,jC,List.flatMap_singleton] at hsz2;rw [lG hk2] at FE;refine kP H (Kc K8 (SQ fun _ K9=>SB (SR fun _ aU=>Ri jG jJ rfl rfl ?_)));clear H K8;intro a H;refine bK jJ (cs:=[_,_,_,_,_,_]) H wn rfl rfl (fun j v hj=>H.hp.aF (hrow j v hj)) rfl ?_;clear H;intro a H;refine dY jJ H wn rfl ?_;clear H;intro b5 a w hb5 H;refine bT jJ 0 (vs:=[_,_,_,_,_,_]) _ H wn rfl rfl rfl rfl rfl rfl rfl rfl ?_;clear H;intro w H;dsimp only [List.set,setRow] at H;refine aU _ _ ?_;clear aU;refine kP H (SC (Rm rfl (aR qh qy 0 rfl rfl ?_)));clear H;intro a H;refine CY (Li:=[_,_]++L) (Lo:=Lo) lQ jK rfl rfl (St.un (A:=[_,_]) H) wn rfl rfl hrw3 (hcl.mono hGi) (by omega) (by omega) rfl ?_;clear H;intro v29 aeu news a w ale hcn H;refine kH H (Ra rfl ?_);clear H;intro a H;refine aH ?_;replace H:=H.assoc.dx (Pl:=[_,_]) (bZ:=[_]) [1] (by decide) rfl;refine K9 _ _ ?_;clear K9;refine kP H (SC (Rd rfl (Rm rfl ?_)));clear H;intro a H;refine aH ?_;refine cB ((rk+1,v29,xs++news,aeu)) (by exact H.sub ⟨rfl,rfl,rfl,rfl,rfl,av⟩) ?_ ?_
   ·(try dsimp only);exact ⟨by omega,by rw [lG hk2,List.flatMap_append,jC,List.flatMap_singleton];exact ale,by rw [lG hk2,List.flatMap_append,kZ,List.flatMap_singleton];exact oK.append hcn⟩
   first|omega|(dsimp only;omega)
  intro h23 a H
  try have CP:=dF h23
  have akZ:rk=x.rows.length:=by omega
  subst akZ;rw [zZ] at hrw3 oK;obtain ⟨G3,rJ,hin,H⟩:=(St.un (A:=[_]) H).DL (rows:=((x.rows.flatMap bH.cells)).map bq.dat) hrw3 (by simp) oK
  replace hin:aB G3 (.sl 7 ((kL x).map bq.dat)) v3:=by rw [kL,au tQ];exact hin
  obtain ⟨iA,ni,ic,rfl⟩:=hin.form;have UF:=hin.len;rw [bN] at UF
  have hisz:(kL x).length≤4294967296:=by
   have h1:=Sy x.rows;rw [kL,au tQ];omega
  refine dJ ?_;refine K3 _ _ ?_;clear K3;refine kP H (SR fun _ bD=>Rm rfl (Rl lQ rfl (Rm rfl (Kz bD (SB ?_)))));clear H bD;intro a H;skip;refine NS (ι:=Nat × Nat × OL × GH × List Nat) (Tc:=[(2,_),(31,_),(32,_)]) (Lc:=[(_,_)]) (fun gh=>J9 gh.2.2.2.2) (fun gh=>[(33,vi gh.1)]) (fun gh=>[]++(mP gh.2.2.2.2++gh.2.2.1)) (fun gh=>gh.2.2.2.1) (fun gh=>gh.1≤(kL x).length∧(∀ b o,G3 b=some o→gh.2.2.2.1 b=some o)∧Now ((jY (kL x)).map Aq) Aq J (jY (kL x)).length gh.2.1 (jY ((kL x).drop gh.1)) gh.2.2.2.1 gh.2.2.1) (fun gh=>(kL x).length - gh.1) ((0,0,L,G3,[])) (by exact (H).sub ⟨rfl,rfl,rfl,rfl,av⟩) ?_ ?_
  ·exact ⟨by omega,fun _ _ h=>h,⟨mM _ _ _ _ rJ hJ,fun i a h=>by rw [ng,oQ];rw [jU] at h;rw [h];rfl,by simp⟩⟩
  clear H;rintro ⟨ck,j1,Lt,g,ds⟩ a w hI H;dsimp only at hI H;obtain ⟨hck,hgm,bP⟩:=hI;dsimp only [lca,aO] at H;refine kP H (SR fun _ bE=>Rc rfl (Kz bE (SQ fun _ bQ=>Cd rfl ?_ ?_))) <;> clear H bE
  ·intro dZ a H
   try have p34:=dT dZ
   have hk3:ck < (kL x).length:=by omega
   obtain ⟨b,o,sA,sn,sc,tA,tn,tc,uA,un,uc,gA,gn,gc,Uq,hrow,hch,hcf⟩:=AY hk3 hin.at_;subst Uq;replace hrow:=fun j u hj=>aJ hgm (hrow j u hj);rw [jw hk3,VH] at bP;refine kP H (Kc bQ (SQ fun _ bR=>SB (SR fun _ bW=>Ri lQ jK rfl rfl ?_)));clear H bQ;intro a H;refine bK jK (cs:=[_,_,_,_,_,_,_]) H wn rfl rfl (fun j v hj=>H.hp.aF (hrow j v hj)) rfl ?_;clear H;intro a H;refine dY jK H wn rfl ?_;clear H;intro b7 a w yg H;refine bT jK 0 (vs:=[_,_,_,_,_,_,_]) _ H wn rfl rfl rfl rfl rfl rfl rfl rfl ?_;clear H;intro w H;dsimp only [List.set,setRow] at H;refine bW _ _ ?_;clear bW;refine kP H (SR fun _ cK=>aR DC aD 0 rfl rfl (aR Cn jy 0 rfl rfl ?_));clear H;intro a H;refine s_call RY H wn rfl (VJ ih _ _ H.ro (kL x)[ck].flow (kL x)[ck].id _ (by have:=abq (jD hk3);omega) (hcf.mono hgm)) rfl ?_;clear H;rintro v41 KL a w ⟨bl,bi,rfl,hit⟩ Cz H;refine cK _ _ ?_;clear cK;refine uy ?_;skip;refine Dw (ι:=OL) (κ:=OL) (Lc:=[(_,_),(_,_)]) (fun (k:Nat) (gh:OL)=>[]) (fun (k:Nat) (gh:OL)=>(mP ds++gh)) (fun (k:Nat) (gh:OL) (g:GH)=>J (j1+k) g gh) (fun (gx:OL)=>Code.ret) (fun (gx:OL)=>[]) (fun (gx:OL)=>(mP ds++gx)) (fun (gx:OL) (g:GH)=>Jx g gx) (Lt) (by exact H) rfl Oc (hit) (fun _ _ h=>h) rfl (fun k args g h=>by obtain ⟨_,_,rfl,_⟩:=CU h;rfl) (fun k i G G' hm h=>mM _ _ _ _ hm h) (fun x G G' hm h=>hJx _ _ _ hm h) (mM _ _ _ _ Cz bP.now) ?_ ?_ ?_
   ·clear H;intro l13 xg uw bk k args vZ qB w13 F13 B13 a Us ql hI Ub UD UZ H;obtain ⟨hk,NY,rfl,zx⟩:=CU Us;obtain ⟨aA,an,ac,bA,bn,bc,NZ,N8,N7,N9,Oh,Oa,Pn,Pp,Po,rfl,-⟩:=zx.item;dsimp only [tu,List.cons_append,List.nil_append] at H;refine cO (fun _ bY=>?_);refine dY kE H wn rfl ?_;clear H;intro b8 a w Ai H;refine bT kE 0 (vs:=[_,_]) _ H wn rfl rfl rfl rfl rfl rfl rfl rfl ?_;clear H;intro w H;dsimp only [List.set,setRow] at H;refine bY _ _ ?_;clear bY;refine rz ?_;refine dY eH H wn rfl ?_;clear H;intro b9 a w uL H;refine bT eH 0 (vs:=[_,_,_,_,_,_,_,_,_,_,_]) _ H wn rfl rfl rfl rfl rfl rfl rfl rfl ?_;clear H;intro w H;dsimp only [List.set,setRow] at H;refine aH ?_;refine Ub _ _ _ _ _ _ (by exact H.dx (Pl:=[_,_,_,_,_]) (bZ:=[_,_,_,_,_]) [2,0,1,3,4] (by decide) rfl) ?_;clear H;intro w H;refine kP H (SB (SR fun _ dG=>Ro Kv 4 rfl ?_));clear H;intro a H;refine bK kE (cs:=[_,_]) H wn rfl rfl (H.hp.fG 2 rfl rfl) rfl ?_;clear H;intro a H;refine bK eH (cs:=[_,_,_,_,_,_,_,_,_,_,_]) H wn rfl rfl (H.hp.fG 1 rfl rfl) rfl ?_;clear H;intro a H;refine rP (Li:=([_,_,_,_,_]++bk)++mP ds) (L:=vZ) (St.un (A:=[_,_,_,_,_]++bk) (St.un (A:=[_,_,_,_,_]) H)) wn rfl rfl (hcb (j1+k) _ _ _ _ ⟨_,bP.part k _ (fH hk),_,rfl,zx⟩ (fun b o h=>ql b o (Cz b o (hgm b o (rJ b o h)))) hI (Hp.owns (Li:=([_,_,_,_,_]++bk)++mP ds) (St.un (A:=[_,_,_,_,_]++bk) (St.un (A:=[_,_,_,_,_]) H)).hp)) rfl ?_;clear H;rintro v47 Ns KW a w ⟨b47,rfl,hb1,hb2⟩ akw H
    simp only [iQ,mE,jB] at H
    refine kH H (Rn rfl (Kz dG (Cd rfl ?_ ?_))) <;> clear H dG
    ·intro h48 a H
     refine dK ?_;refine (UZ (KW) _ _ _ _ _ (by exact H.dx (Pl:=[_,_,_,_,_]) (bZ:=[_,_,_]) [0,3,4] (by decide) rfl) ?_).1 rfl;exact hb2 (by simpa using h48)
    intro h48 a H
    refine fT ?_;refine UD (KW) _ _ _ _ _ (by exact H.dx (Pl:=[_,_,_,_,_]) (bZ:=[_,_,_]) [0,3,4] (by decide) rfl) ?_;exact hb1 (by simpa using h48)
   ·clear H;intro KH vZ KN a w ql hI H;dsimp only [lca,aO] at H;refine bR _ _ ?_;clear bR;refine kP H (SC (Rd rfl (Rm rfl ?_)));clear H;intro a H;refine aH ?_;refine Ip ((ck+1,j1+(fZ (kL x)[ck].id 0 (kL x)[ck].flow).length,vZ,KN,KH :: ds)) (by exact (H.dx (Pl:=[_,_,_]) (bZ:=[_,_]) [2,0] (by decide) rfl).sub ⟨rfl,rfl,rfl,rfl,av⟩) ?_ ?_
    ·(try dsimp only);exact ⟨by omega,fun b o h=>ql b o (Cz b o (hgm b o h)),bP.jump (by simpa using hI)⟩
    first|omega|(dsimp only;omega)
   clear H;intro KH Lx KN a w ql hI H;dsimp only [lca,aO] at H;refine dK ?_;refine (Am H 0 rfl ?_).1;clear H;intro a w H;dsimp only [List.eraseIdx_cons_succ,List.eraseIdx_cons_zero] at H;refine (Ao (Lh:=[_,_]) _ H ?_).1;clear H;intro a w H;dsimp only [lca,aO] at H;refine (leave0 H results193 ?_).1
   first
    | exact H.hp.bU (L':=Lx) (by repeat (first|exact cu _|apply List.Sublist.cons)) (.inr hI)
    | exact H.hp.bU (L':=Lt) (by repeat (first|exact cu _|apply List.Sublist.cons)) (.inl (by rw [eU (by omega),jY] at bP;have:=bP.len;simp only [List.length_nil,nT] at this;rw [bN,← this];exact bP.now))
  intro dZ a H
  try have p34:=dF dZ
  refine dJ ?_;refine (Ao (Lh:=[_]) _ H ?_).2;clear H;intro a w H;dsimp only [lca,aO] at H;refine (leave0 H results193 ?_).1
  first
   | exact H.hp.bU (L':=Lx) (by repeat (first|exact cu _|apply List.Sublist.cons)) (.inr hI)
   | exact H.hp.bU (L':=Lt) (by repeat (first|exact cu _|apply List.Sublist.cons)) (.inl (by rw [eU (by omega),jY] at bP;have:=bP.len;simp only [List.length_nil,nT] at this;rw [bN,← this];exact bP.now))
 intro h18 a H
 try have tQ:=dF h18
 obtain ⟨G3,rJ,hin,H⟩:=H.Ox (sz:=7) (d:=(bq.mk x.id ⟨[],⟨0,0,[],[]⟩⟩ x.flow).dat) rfl (bM.PO (x:=bq.mk x.id ⟨[],⟨0,0,[],[]⟩⟩ x.flow) ⟨aB.lM rfl (by decide),aB.lM rfl (by decide),aB.lM rfl (by decide)⟩ (hf.mono hGi))
 replace hin:aB G3 (.sl 7 ((kL x).map bq.dat)) (.slice (some ⟨b15,0,none⟩) 1 1):=by rw [kL,ah tQ];exact hin
 obtain ⟨iA,hiA⟩:∃ z,z=some (Addr.mk b15 0 none):=⟨_,rfl⟩;obtain ⟨ni,hni⟩:∃ z,z=1:=⟨_,rfl⟩;obtain ⟨ic,hic⟩:∃ z,z=1:=⟨_,rfl⟩;rw [← hiA] at hin H;have UF:=hin.len;rw [bN] at UF
 have hisz:(kL x).length≤4294967296:=by omega
 refine kP H (Kc K3 (SR fun _ dN=>Rm rfl (Rl lQ rfl (Rm rfl (Kz dN (SB ?_))))));clear H K3 dN;intro a H;skip;refine NS (ι:=Nat × Nat × OL × GH × List Nat) (Tc:=[(2,_),(31,_),(32,_)]) (Lc:=[(_,_)]) (fun gh=>J9 gh.2.2.2.2) (fun gh=>[(33,vi gh.1)]) (fun gh=>[]++(mP gh.2.2.2.2++gh.2.2.1)) (fun gh=>gh.2.2.2.1) (fun gh=>gh.1≤(kL x).length∧(∀ b o,G3 b=some o→gh.2.2.2.1 b=some o)∧Now ((jY (kL x)).map Aq) Aq J (jY (kL x)).length gh.2.1 (jY ((kL x).drop gh.1)) gh.2.2.2.1 gh.2.2.1) (fun gh=>(kL x).length - gh.1) ((0,0,L,G3,[])) (by exact (H).sub ⟨rfl,rfl,rfl,rfl,av⟩) ?_ ?_
 ·exact ⟨by omega,fun _ _ h=>h,⟨mM _ _ _ _ rJ hJ,fun i a h=>by rw [ng,oQ];rw [jU] at h;rw [h];rfl,by simp⟩⟩
 clear H;rintro ⟨ck,j1,Lt,g,ds⟩ a w hI H;dsimp only at hI H;obtain ⟨hck,hgm,bP⟩:=hI;dsimp only [lca,aO] at H;refine kP H (SR fun _ dH=>Rc rfl (Kz dH (SQ fun _ dP=>Cd rfl ?_ ?_))) <;> clear H dH
 ·intro dZ a H
  try have p34:=dT dZ
  have hk3:ck < (kL x).length:=by omega
  obtain ⟨b,o,sA,sn,sc,tA,tn,tc,uA,un,uc,gA,gn,gc,Uq,hrow,hch,hcf⟩:=AY hk3 hin.at_;subst Uq;replace hrow:=fun j u hj=>aJ hgm (hrow j u hj);rw [jw hk3,VH] at bP;refine kP H (Kc dP (SQ fun _ eT=>SB (SR fun _ fP=>Ri lQ jK rfl rfl ?_)));clear H dP;intro a H;refine bK jK (cs:=[_,_,_,_,_,_,_]) H wn rfl rfl (fun j v hj=>H.hp.aF (hrow j v hj)) rfl ?_;clear H;intro a H;refine dY jK H wn rfl ?_;clear H;intro b7 a w yg H;refine bT jK 0 (vs:=[_,_,_,_,_,_,_]) _ H wn rfl rfl rfl rfl rfl rfl rfl rfl ?_;clear H;intro w H;dsimp only [List.set,setRow] at H;refine fP _ _ ?_;clear fP;refine kP H (SR fun _ gq=>aR DC aD 0 rfl rfl (aR Cn jy 0 rfl rfl ?_));clear H;intro a H;refine s_call RY H wn rfl (VJ ih _ _ H.ro (kL x)[ck].flow (kL x)[ck].id _ (by have:=abq (jD hk3);omega) (hcf.mono hgm)) rfl ?_;clear H;rintro v41 KL a w ⟨bl,bi,rfl,hit⟩ Cz H;refine gq _ _ ?_;clear gq;refine uy ?_;skip;refine Dw (ι:=OL) (κ:=OL) (Lc:=[(_,_),(_,_)]) (fun (k:Nat) (gh:OL)=>[]) (fun (k:Nat) (gh:OL)=>(mP ds++gh)) (fun (k:Nat) (gh:OL) (g:GH)=>J (j1+k) g gh) (fun (gx:OL)=>Code.ret) (fun (gx:OL)=>[]) (fun (gx:OL)=>(mP ds++gx)) (fun (gx:OL) (g:GH)=>Jx g gx) (Lt) (by exact H) rfl Oc (hit) (fun _ _ h=>h) rfl (fun k args g h=>by obtain ⟨_,_,rfl,_⟩:=CU h;rfl) (fun k i G G' hm h=>mM _ _ _ _ hm h) (fun x G G' hm h=>hJx _ _ _ hm h) (mM _ _ _ _ Cz bP.now) ?_ ?_ ?_
  ·clear H;intro l13 xg uw bk k args vZ qB w13 F13 B13 a Us ql hI Ub UD UZ H;obtain ⟨hk,NY,rfl,zx⟩:=CU Us;obtain ⟨aA,an,ac,bA,bn,bc,NZ,N8,N7,N9,Oh,Oa,Pn,Pp,Po,rfl,-⟩:=zx.item;dsimp only [tu,List.cons_append,List.nil_append] at H;refine cO (fun _ gG=>?_);refine dY kE H wn rfl ?_;clear H;intro b8 a w Ai H;refine bT kE 0 (vs:=[_,_]) _ H wn rfl rfl rfl rfl rfl rfl rfl rfl ?_;clear H;intro w H;dsimp only [List.set,setRow] at H;refine gG _ _ ?_;clear gG;refine rz ?_;refine dY eH H wn rfl ?_;clear H;intro b9 a w uL H;refine bT eH 0 (vs:=[_,_,_,_,_,_,_,_,_,_,_]) _ H wn rfl rfl rfl rfl rfl rfl rfl rfl ?_;clear H;intro w H;dsimp only [List.set,setRow] at H;refine aH ?_;refine Ub _ _ _ _ _ _ (by exact H.dx (Pl:=[_,_,_,_,_]) (bZ:=[_,_,_,_,_]) [2,0,1,3,4] (by decide) rfl) ?_;clear H;intro w H;refine kP H (SB (SR fun _ iP=>Ro Kv 4 rfl ?_));clear H;intro a H;refine bK kE (cs:=[_,_]) H wn rfl rfl (H.hp.fG 2 rfl rfl) rfl ?_;clear H;intro a H;refine bK eH (cs:=[_,_,_,_,_,_,_,_,_,_,_]) H wn rfl rfl (H.hp.fG 1 rfl rfl) rfl ?_;clear H;intro a H;refine rP (Li:=([_,_,_,_,_]++bk)++mP ds) (L:=vZ) (St.un (A:=[_,_,_,_,_]++bk) (St.un (A:=[_,_,_,_,_]) H)) wn rfl rfl (hcb (j1+k) _ _ _ _ ⟨_,bP.part k _ (fH hk),_,rfl,zx⟩ (fun b o h=>ql b o (Cz b o (hgm b o (rJ b o h)))) hI (Hp.owns (Li:=([_,_,_,_,_]++bk)++mP ds) (St.un (A:=[_,_,_,_,_]++bk) (St.un (A:=[_,_,_,_,_]) H)).hp)) rfl ?_;clear H;rintro v47 Ns KW a w ⟨b47,rfl,hb1,hb2⟩ akw H
   simp only [iQ,mE,jB] at H
   refine kH H (Rn rfl (Kz iP (Cd rfl ?_ ?_))) <;> clear H iP
   ·intro h48 a H
    refine dK ?_;refine (UZ (KW) _ _ _ _ _ (by exact H.dx (Pl:=[_,_,_,_,_]) (bZ:=[_,_,_]) [0,3,4] (by decide) rfl) ?_).1 rfl;exact hb2 (by simpa using h48)
   intro h48 a H
   refine fT ?_;refine UD (KW) _ _ _ _ _ (by exact H.dx (Pl:=[_,_,_,_,_]) (bZ:=[_,_,_]) [0,3,4] (by decide) rfl) ?_;exact hb1 (by simpa using h48)
  ·clear H;intro KH vZ KN a w ql hI H;dsimp only [lca,aO] at H;refine eT _ _ ?_;clear eT;refine kP H (SC (Rd rfl (Rm rfl ?_)));clear H;intro a H;refine aH ?_;refine Ip ((ck+1,j1+(fZ (kL x)[ck].id 0 (kL x)[ck].flow).length,vZ,KN,KH :: ds)) (by exact (H.dx (Pl:=[_,_,_]) (bZ:=[_,_]) [2,0] (by decide) rfl).sub ⟨rfl,rfl,rfl,rfl,av⟩) ?_ ?_
   ·(try dsimp only);exact ⟨by omega,fun b o h=>ql b o (Cz b o (hgm b o h)),bP.jump (by simpa using hI)⟩
   first|omega|(dsimp only;omega)
  clear H;intro KH Lx KN a w ql hI H;dsimp only [lca,aO] at H;refine dK ?_;refine (Am H 0 rfl ?_).1;clear H;intro a w H;dsimp only [List.eraseIdx_cons_succ,List.eraseIdx_cons_zero] at H;refine (Ao (Lh:=[_,_]) _ H ?_).1;clear H;intro a w H;dsimp only [lca,aO] at H;refine (leave0 H results193 ?_).1
  first
   | exact H.hp.bU (L':=Lx) (by repeat (first|exact cu _|apply List.Sublist.cons)) (.inr hI)
   | exact H.hp.bU (L':=Lt) (by repeat (first|exact cu _|apply List.Sublist.cons)) (.inl (by rw [eU (by omega),jY] at bP;have:=bP.len;simp only [List.length_nil,nT] at this;rw [bN,← this];exact bP.now))
 intro dZ a H
 try have p34:=dF dZ
 refine dJ ?_;refine (Ao (Lh:=[_]) _ H ?_).2;clear H;intro a w H;dsimp only [lca,aO] at H;refine (leave0 H results193 ?_).1
 first
  | exact H.hp.bU (L':=Lx) (by repeat (first|exact cu _|apply List.Sublist.cons)) (.inr hI)
  | exact H.hp.bU (L':=Lt) (by repeat (first|exact cu _|apply List.Sublist.cons)) (.inl (by rw [eU (by omega),jY] at bP;have:=bP.len;simp only [List.length_nil,nT] at this;rw [bN,← this];exact bP.now))
theorem adW {n:Nat} (ih:I8 n) (hn:n≤4294967296) (G:GH) (w0:World) (hG:Hold G w0) (x:aC) (cs:List aj) (hsz:dh x.dat≤n) (hv:bM G x.dat cs) :
  Calls prog 150 #[.agg cs.toArray] w0 (bV w0 G fun u G'=>∃ bx,u=.func (.func 193) #[] #[(aP bx 0)]∧Iter prog G' u ((jY (kL x)).map Aq)):=by
 obtain ⟨pA,pn,pc,dA,dn,dc,yA,yn,yc,fA,fn,fc,rA,rn,rc,hcs,-⟩:=hv.item;have hv2:=hv;rw [hcs] at hv2 ⊢;refine eN [(0,_)] func150 rfl ntmps150 rfl rfl hG ?_;intro a H;refine cO (fun _ K1=>?_);refine fD (cs:=[_,_,_,_,_,_,_,_,_,_,_]) H wn rfl rfl rfl ?_;clear H;intro b1 a w hb1 H;refine kH H (ak K1 rfl (SR fun _ K2=>?_));clear H K1;intro a H;refine pO H wn rfl rfl ?_;clear H;intro a H;refine kH H (ak K2 rfl ?_);clear H K2;intro a H;refine dK ?_;obtain ⟨G2,hm2,hb1,H⟩:=H.eD;refine lv H results150 rfl ?_;exact H.rt ⟨b1,rfl,aqD ih hn hsz hb1 (hv2.mono hm2)⟩
theorem aeK (x:aC):sV x < dh x.dat:=by
 have h1:=oN x;have h2:=EZ x.text
 unfold sV;split <;> omega
set_option maxHeartbeats 1000000 in
theorem anQ {n:Nat} (ih:I8 n) (hn:n≤4294967296):I8 (n+1):=by
 intro G l id bl bi v hz hbl hbi hv J Jx fv G1 L w0 D6 hGi mM hJx hJ hO hcb;refine nk (caps:=[(aP bl 0),(aP bi 0)]) Oc ?_;obtain ⟨A,c,rfl,hc1,hc2,hg⟩:=hv.slice;rw [bN] at *;have hll:=Dg l;replace hbl:=aJ hGi hbl;replace hbi:=aJ hGi hbi;refine kS (N:=55) (T:=[(0,_),(1,_),(2,_)]) func149 rfl ntmps149 rfl rfl hO ?_;intro a H;refine cO (fun _ K1=>?_);refine fD (cs:=[fv]) H wn rfl D6 rfl ?_;clear H;intro b3 a w hb3 H;refine K1 _ _ ?_;clear K1;refine kP H (SR fun _ K2=>ak K2 rfl (SR fun _ K3=>Rg jy rfl (by assumption) ?_));clear H K2;intro a H;refine kH H (Rl jM rfl (Rm rfl (Kz K3 (SB ?_))));clear H K3;intro a H;skip;refine NS (ι:=Nat × Int × Nat × OL × GH × List Nat) (Tc:=[(2,_),(3,_),(12,_),(13,_)]) (Lc:=[(_,_)]) (fun gh=>J9 gh.2.2.2.2.2) (fun gh=>[(4,vi gh.2.1),(14,vi gh.1)]) (fun gh=>[]++(mP gh.2.2.2.2.2++gh.2.2.2.1)) (fun gh=>gh.2.2.2.2.1) (fun gh=>gh.1≤l.length∧(∀ b o,G1 b=some o→gh.2.2.2.2.1 b=some o)∧Now ((fZ id 0 l).map Aq) Aq J (fZ id 0 l).length gh.2.2.1 (fZ id gh.2.1 (l.drop gh.1)) gh.2.2.2.2.1 gh.2.2.2.1∧0≤gh.2.1∧gh.2.1+bB (l.drop gh.1)≤n) (fun gh=>l.length - gh.1) ((0,0,0,L,G1,[])) (by exact (H).sub ⟨rfl,rfl,rfl,rfl,rfl,rfl,av⟩) ?_ ?_
 ·exact ⟨by omega,fun _ _ h=>h,⟨hJ,fun i a h=>by rw [ng,oQ];rw [jU] at h;rw [h];rfl,by simp⟩,Int.le_refl _,by simp;omega⟩
 clear H;rintro ⟨k,at_,j1,Lt,g,ds⟩ a w hI H;dsimp only at hI H;obtain ⟨hk,hgm,bP,arf,hat⟩:=hI;dsimp only [lca,aO] at H;refine kP H (SR fun _ K4=>Rc rfl (Kz K4 (SQ fun _ K5=>Cd rfl ?_ ?_))) <;> clear H K4
 ·intro jV a H
  try have qo:=dT jV
  have hk2:k < l.length:=by omega
  obtain ⟨b,o,pA,pn,pc,dA,dn,dc,yA,yn,yc,fA,fn,fc,rA,rn,rc,rfl,hrow,hhd,hfl,hrw⟩:=Bl hk2 hg;have pI:∀ b o,G b=some o→g b=some o:=fun b o h=>hgm b o (hGi b o h);replace hrow:=fun j u hj=>aJ pI (hrow j u hj);have arD:=aJ hgm hbi;have hsz1:=oN l[k];have hsz2:=KG (jD hk2);have ard:=aeK l[k];rw [jw hk2] at bP hat;rw [bB,dW,eu] at hat;rw [fZ] at bP;refine kP H (Kc K5 (SQ fun _ K6=>SB (SR fun _ K7=>Ri jM eH rfl rfl ?_)));clear H K5;intro a H;refine bK eH (cs:=[_,_,_,_,_,_,_,_,_,_,_]) H wn rfl rfl (fun j v hj=>H.hp.aF (hrow j v hj)) rfl ?_;clear H;intro a H;refine dY eH H wn rfl ?_;clear H;intro b6 a w hb6 H;refine bT eH 0 (vs:=[_,_,_,_,_,_,_,_,_,_,_]) _ H wn rfl rfl rfl rfl rfl rfl rfl rfl ?_;clear H;intro w H;dsimp only [List.set,setRow] at H;refine K7 _ _ ?_;clear K7;refine kP H (SR fun _ K8=>Rg aD rfl (by assumption) ?_);clear H;intro a H;refine kH H (Rm rfl ?_);clear H;intro a H;refine mq Kq [_,_] H wn rfl rfl rfl rfl ?_;clear H;intro a H;refine dY kE H wn rfl ?_;clear H;intro b7 a w yg H;refine bT kE 0 (vs:=[_,_]) _ H wn rfl rfl rfl rfl rfl rfl rfl rfl ?_;clear H;intro w H;dsimp only [List.set,setRow] at H;refine K8 _ _ ?_;clear K8;refine kP H (SR fun _ K9=>Rm rfl (Rd rfl (ak K9 rfl (SR fun _ aU=>aR gH aD 1 rfl rfl (Kz aU (SB (SR fun _ bD=>Rc rfl (ak bD rfl (Cd rfl ?_ ?_))))))))) <;> clear H K9 aU bD
  ·intro fM a H
   try have p25:=dT fM
   have hcl:=EZ l[k].text;refine kP H (SR fun _ bE=>aR vF gZ 1 rfl rfl ?_);clear H;intro a H;refine s_call Og H wn rfl (NW _ _ H.ro _ (by omega)) rfl ?_;clear H;rintro v30 EC a w ⟨rfl,rfl⟩ Fx H;refine kH H (Rm rfl ?_);clear H;intro a H;(iterate 2 refine nQ H wn rfl rfl rfl ?_;clear H;intro a H);refine kH H (Ra rfl (ak bE rfl (SC (Rm rfl (Rm rfl (Rs rfl (Rd rfl (Ra rfl ?_))))))));clear H bE;intro a H
   have e:at_+1+((xR l[k].text:Int) - 1)=at_+(sV l[k]:Int):=by rw [sV,au p25];omega
   rw [e] at H;refine kH H (Kn K6 (SC (Rd rfl (Rm rfl ?_))));clear H K6;intro a H;refine aH ?_;refine Ip ((k+1,at_+sV l[k],j1,Lt,g,ds)) (by exact (H.dx (Pl:=[_,_,_]) (bZ:=[_]) [2] (by decide) rfl).sub ⟨rfl,rfl,rfl,rfl,rfl,rfl,av⟩) ?_ ?_
   ·(try dsimp only);exact ⟨by omega,hgm,by rw [Kh,ah (by omega),jB] at bP;exact bP,by omega,by show at_+(sV l[k]:Int)+(eu ((l.drop (k+1)).map aC.dat):Nat)≤n;omega⟩
   first|omega|(dsimp only;omega)
  intro fM a H
  try have p25:=dF fM
  have e:at_+1=at_+(sV l[k]:Int):=by rw [sV,ah p25];rfl
  rw [e] at H;refine kP H (SQ fun _ bQ=>SR fun _ bR=>Rc rfl (ak bR rfl (Cd rfl ?_ ?_))) <;> clear H bR
  ·intro h37 a H
   try have p37:=dT h37
   have wP:l[k].kind=6∨l[k].kind=7:=by first|exact .inl p37|exact .inr p37
   rw [Kh,au wP] at bP;refine kP H (Kc bQ (Ct rfl h37 (SQ fun _ bW=>SR fun _ cK=>Ro Kv 2 rfl ?_)));clear H bQ;intro a H;refine bK kE (cs:=[_,_]) H wn rfl rfl (H.hp.fG 0 rfl rfl) rfl ?_;clear H;intro a H;refine bK eH (cs:=[_,_,_,_,_,_,_,_,_,_,_]) H wn rfl rfl (H.hp.fG 1 rfl rfl) rfl ?_;clear H;intro a H;refine rP (Li:=[_,_,_]++mP ds) (L:=Lt) (St.un (A:=[_,_,_]) H) wn rfl rfl (hcb j1 _ _ _ _ ⟨_,bP.head,_,rfl,bM.mkItem (hhd.mono pI) (hfl.mono pI) (hrw.mono pI)⟩ hgm bP.now (Hp.owns (Li:=[_,_,_]++mP ds) (St.un (A:=[_,_,_]) H).hp)) rfl ?_;clear H;rintro v43 AO EO a w ⟨NJ,rfl,hb1,hb2⟩ nO H
   simp only [iQ,mE,jB] at H
   refine kH H (Rn rfl (Kz cK (Cd rfl ?_ ?_))) <;> clear H cK
   ·intro kT a H
    try have p44:=dT kT
    refine dK ?_;refine (Ao (Lh:=[_,_,_]) _ H ?_).1;clear H;intro a w H;dsimp only [lca,aO] at H;refine (leave0 H results149 ?_).1
    first
     | exact H.hp.bU (L':=Lx) (by repeat (first|exact cu _|apply List.Sublist.cons)) (.inr hI)
     | exact H.hp.bU (L':=EO) (by repeat (first|exact cu _|apply List.Sublist.cons)) (.inr (hb2 (by simpa using kT)))
     | exact H.hp.bU (L':=Lt) (by repeat (first|exact cu _|apply List.Sublist.cons)) (.inl (by rw [eU (by omega),fZ] at bP;have:=bP.len;simp only [List.length_nil,nT] at this;(try rw [bN]);rw [← this];exact bP.now))
   intro kT a H
   try have p44:=dF kT
   have pJ:=bP.step (hb1 (by simpa using kT));refine fT ?_;refine bW _ _ ?_;clear bW;refine cO (fun _ bY=>?_);refine bK eH (cs:=[_,_,_,_,_,_,_,_,_,_,_]) H wn rfl rfl (H.hp.fG 1 rfl rfl) rfl ?_;clear H;intro a H;refine s_call YT H wn rfl (adW ih hn _ _ H.ro l[k] _ (by omega) (bM.mkItem (hhd.mono fun b o h=>nO b o (pI b o h)) (hfl.mono fun b o h=>nO b o (pI b o h)) (hrw.mono fun b o h=>nO b o (pI b o h)))) rfl ?_;clear H;rintro v46 QE a w ⟨bx,rfl,hit⟩ Ea H;refine bY _ _ ?_;clear bY;refine uy ?_;skip;refine Dw (ι:=OL) (κ:=OL) (Lc:=[(_,_),(_,_),(_,_)]) (fun (k:Nat) (gh:OL)=>[]) (fun (k:Nat) (gh:OL)=>(mP ds++gh)) (fun (k:Nat) (gh:OL) (g:GH)=>J (j1+1+k) g gh) (fun (gx:OL)=>Code.ret) (fun (gx:OL)=>[]) (fun (gx:OL)=>(mP ds++gx)) (fun (gx:OL) (g:GH)=>Jx g gx) (EO) (by exact H) rfl RN (hit) (fun _ _ h=>h) rfl (fun k args g h=>by obtain ⟨_,_,rfl,_⟩:=CU h;rfl) (fun k i G G' hm h=>mM _ _ _ _ hm h) (fun x G G' hm h=>hJx _ _ _ hm h) (mM _ _ _ _ Ea pJ.now) ?_ ?_ ?_
   ·clear H;intro l15 xg uw bk k args vZ EB w15 F15 B15 a Ut vM hI Uc UE U0 H;obtain ⟨Uu,NY,rfl,zx⟩:=CU Ut;obtain ⟨aA,an,ac,bA,bn,bc,NZ,N8,N7,N9,Oh,Oa,Pn,Pp,Po,rfl,-⟩:=zx.item;dsimp only [tu,List.cons_append,List.nil_append] at H;refine cO (fun _ dG=>?_);refine dY kE H wn rfl ?_;clear H;intro b10 a w JE H;refine bT kE 0 (vs:=[_,_]) _ H wn rfl rfl rfl rfl rfl rfl rfl rfl ?_;clear H;intro w H;dsimp only [List.set,setRow] at H;refine dG _ _ ?_;clear dG;refine rz ?_;refine dY eH H wn rfl ?_;clear H;intro b11 a w Hu H;refine bT eH 0 (vs:=[_,_,_,_,_,_,_,_,_,_,_]) _ H wn rfl rfl rfl rfl rfl rfl rfl rfl ?_;clear H;intro w H;dsimp only [List.set,setRow] at H;refine aH ?_;refine Uc _ _ _ _ _ _ (by exact H.dx (Pl:=[_,_,_,_,_,_]) (bZ:=[_,_,_,_,_,_]) [2,0,1,3,4,5] (by decide) rfl) ?_;clear H;intro w H;refine kP H (SB (SR fun _ dN=>Ro Kv 5 rfl ?_));clear H;intro a H;refine bK kE (cs:=[_,_]) H wn rfl rfl (H.hp.fG 2 rfl rfl) rfl ?_;clear H;intro a H;refine bK eH (cs:=[_,_,_,_,_,_,_,_,_,_,_]) H wn rfl rfl (H.hp.fG 1 rfl rfl) rfl ?_;clear H;intro a H;refine rP (Li:=([_,_,_,_,_,_]++bk)++mP ds) (L:=vZ) (St.un (A:=[_,_,_,_,_,_]++bk) (St.un (A:=[_,_,_,_,_,_]) H)) wn rfl rfl (hcb (j1+1+k) _ _ _ _ ⟨_,pJ.part k _ (fH Uu),_,rfl,zx⟩ (fun b o h=>vM b o (Ea b o (nO b o (hgm b o h)))) hI (Hp.owns (Li:=([_,_,_,_,_,_]++bk)++mP ds) (St.un (A:=[_,_,_,_,_,_]++bk) (St.un (A:=[_,_,_,_,_,_]) H)).hp)) rfl ?_;clear H;rintro v52 Nt KX a w ⟨b52,rfl,hb3,hb4⟩ Uy H
    simp only [iQ,mE,jB] at H
    refine kH H (Rn rfl (Kz dN (Cd rfl ?_ ?_))) <;> clear H dN
    ·intro dS a H
     refine dK ?_;refine (U0 (KX) _ _ _ _ _ (by exact H.dx (Pl:=[_,_,_,_,_,_]) (bZ:=[_,_,_,_]) [0,3,4,5] (by decide) rfl) ?_).1 rfl;exact hb4 (by simpa using dS)
    intro dS a H
    refine fT ?_;refine UE (KX) _ _ _ _ _ (by exact H.dx (Pl:=[_,_,_,_,_,_]) (bZ:=[_,_,_,_]) [0,3,4,5] (by decide) rfl) ?_;exact hb3 (by simpa using dS)
   ·clear H;intro KI vZ KO a w vM hI H;dsimp only [lca,aO] at H;refine K6 _ _ ?_;clear K6;refine kP H (SC (Rd rfl (Rm rfl ?_)));clear H;intro a H;refine aH ?_;refine Ip ((k+1,at_+sV l[k],j1+1+(jY (kL l[k])).length,vZ,KO,KI :: ds)) (by exact (H.dx (Pl:=[_,_,_,_]) (bZ:=[_,_]) [3,0] (by decide) rfl).sub ⟨rfl,rfl,rfl,rfl,rfl,rfl,av⟩) ?_ ?_
    ·(try dsimp only);exact ⟨by omega,fun b o h=>vM b o (Ea b o (nO b o (hgm b o h))),pJ.jump (by simpa using hI),by omega,by show at_+(sV l[k]:Int)+(eu ((l.drop (k+1)).map aC.dat):Nat)≤n;omega⟩
    first|omega|(dsimp only;omega)
   clear H;intro KI Lx KO a w vM hI H;dsimp only [lca,aO] at H;refine dK ?_;refine (Am H 0 rfl ?_).1;clear H;intro a w H;dsimp only [List.eraseIdx_cons_succ,List.eraseIdx_cons_zero] at H;refine (Ao (Lh:=[_,_,_]) _ H ?_).1;clear H;intro a w H;dsimp only [lca,aO] at H;refine (leave0 H results149 ?_).1
   first
    | exact H.hp.bU (L':=Lx) (by repeat (first|exact cu _|apply List.Sublist.cons)) (.inr hI)
    | exact H.hp.bU (L':=EO) (by repeat (first|exact cu _|apply List.Sublist.cons)) (.inr (hb2 (by simpa using kT)))
    | exact H.hp.bU (L':=Lt) (by repeat (first|exact cu _|apply List.Sublist.cons)) (.inl (by rw [eU (by omega),fZ] at bP;have:=bP.len;simp only [List.length_nil,nT] at this;(try rw [bN]);rw [← this];exact bP.now))
  intro h37 a H
  try have p37:=dF h37
  first
   | (have hn6:¬ l[k].kind=6:=p37)
   | (have OY:¬ l[k].kind=7:=p37)
  refine kP H (SC (Rc rfl (aL bQ rfl (Cd rfl ?_ ?_)))) <;> clear H bQ
  ·intro h37 a H
   try have p37:=dT h37
   have wP:l[k].kind=6∨l[k].kind=7:=by first|exact .inl p37|exact .inr p37
   rw [Kh,au wP] at bP;refine kP H (SQ fun _ dH=>SR fun _ dP=>Ro Kv 2 rfl ?_);clear H;intro a H;refine bK kE (cs:=[_,_]) H wn rfl rfl (H.hp.fG 0 rfl rfl) rfl ?_;clear H;intro a H;refine bK eH (cs:=[_,_,_,_,_,_,_,_,_,_,_]) H wn rfl rfl (H.hp.fG 1 rfl rfl) rfl ?_;clear H;intro a H;refine rP (Li:=[_,_,_]++mP ds) (L:=Lt) (St.un (A:=[_,_,_]) H) wn rfl rfl (hcb j1 _ _ _ _ ⟨_,bP.head,_,rfl,bM.mkItem (hhd.mono pI) (hfl.mono pI) (hrw.mono pI)⟩ hgm bP.now (Hp.owns (Li:=[_,_,_]++mP ds) (St.un (A:=[_,_,_]) H).hp)) rfl ?_;clear H;rintro v43 AO EO a w ⟨NJ,rfl,hb1,hb2⟩ nO H
   simp only [iQ,mE,jB] at H
   refine kH H (Rn rfl (Kz dP (Cd rfl ?_ ?_))) <;> clear H dP
   ·intro kT a H
    try have p44:=dT kT
    refine dK ?_;refine (Ao (Lh:=[_,_,_]) _ H ?_).1;clear H;intro a w H;dsimp only [lca,aO] at H;refine (leave0 H results149 ?_).1
    first
     | exact H.hp.bU (L':=Lx) (by repeat (first|exact cu _|apply List.Sublist.cons)) (.inr hI)
     | exact H.hp.bU (L':=EO) (by repeat (first|exact cu _|apply List.Sublist.cons)) (.inr (hb2 (by simpa using kT)))
     | exact H.hp.bU (L':=Lt) (by repeat (first|exact cu _|apply List.Sublist.cons)) (.inl (by rw [eU (by omega),fZ] at bP;have:=bP.len;simp only [List.length_nil,nT] at this;(try rw [bN]);rw [← this];exact bP.now))
   intro kT a H
   try have p44:=dF kT
   have pJ:=bP.step (hb1 (by simpa using kT));refine fT ?_;refine dH _ _ ?_;clear dH;refine cO (fun _ eT=>?_);refine bK eH (cs:=[_,_,_,_,_,_,_,_,_,_,_]) H wn rfl rfl (H.hp.fG 1 rfl rfl) rfl ?_;clear H;intro a H;refine s_call YT H wn rfl (adW ih hn _ _ H.ro l[k] _ (by omega) (bM.mkItem (hhd.mono fun b o h=>nO b o (pI b o h)) (hfl.mono fun b o h=>nO b o (pI b o h)) (hrw.mono fun b o h=>nO b o (pI b o h)))) rfl ?_;clear H;rintro v46 QE a w ⟨bx,rfl,hit⟩ Ea H;refine eT _ _ ?_;clear eT;refine uy ?_;skip;refine Dw (ι:=OL) (κ:=OL) (Lc:=[(_,_),(_,_),(_,_)]) (fun (k:Nat) (gh:OL)=>[]) (fun (k:Nat) (gh:OL)=>(mP ds++gh)) (fun (k:Nat) (gh:OL) (g:GH)=>J (j1+1+k) g gh) (fun (gx:OL)=>Code.ret) (fun (gx:OL)=>[]) (fun (gx:OL)=>(mP ds++gx)) (fun (gx:OL) (g:GH)=>Jx g gx) (EO) (by exact H) rfl RN (hit) (fun _ _ h=>h) rfl (fun k args g h=>by obtain ⟨_,_,rfl,_⟩:=CU h;rfl) (fun k i G G' hm h=>mM _ _ _ _ hm h) (fun x G G' hm h=>hJx _ _ _ hm h) (mM _ _ _ _ Ea pJ.now) ?_ ?_ ?_
   ·clear H;intro l15 xg uw bk k args vZ EB w15 F15 B15 a Ut vM hI Uc UE U0 H;obtain ⟨Uu,NY,rfl,zx⟩:=CU Ut;obtain ⟨aA,an,ac,bA,bn,bc,NZ,N8,N7,N9,Oh,Oa,Pn,Pp,Po,rfl,-⟩:=zx.item;dsimp only [tu,List.cons_append,List.nil_append] at H;refine cO (fun _ fP=>?_);refine dY kE H wn rfl ?_;clear H;intro b10 a w JE H;refine bT kE 0 (vs:=[_,_]) _ H wn rfl rfl rfl rfl rfl rfl rfl rfl ?_;clear H;intro w H;dsimp only [List.set,setRow] at H;refine fP _ _ ?_;clear fP;refine rz ?_;refine dY eH H wn rfl ?_;clear H;intro b11 a w Hu H;refine bT eH 0 (vs:=[_,_,_,_,_,_,_,_,_,_,_]) _ H wn rfl rfl rfl rfl rfl rfl rfl rfl ?_;clear H;intro w H;dsimp only [List.set,setRow] at H;refine aH ?_;refine Uc _ _ _ _ _ _ (by exact H.dx (Pl:=[_,_,_,_,_,_]) (bZ:=[_,_,_,_,_,_]) [2,0,1,3,4,5] (by decide) rfl) ?_;clear H;intro w H;refine kP H (SB (SR fun _ gq=>Ro Kv 5 rfl ?_));clear H;intro a H;refine bK kE (cs:=[_,_]) H wn rfl rfl (H.hp.fG 2 rfl rfl) rfl ?_;clear H;intro a H;refine bK eH (cs:=[_,_,_,_,_,_,_,_,_,_,_]) H wn rfl rfl (H.hp.fG 1 rfl rfl) rfl ?_;clear H;intro a H;refine rP (Li:=([_,_,_,_,_,_]++bk)++mP ds) (L:=vZ) (St.un (A:=[_,_,_,_,_,_]++bk) (St.un (A:=[_,_,_,_,_,_]) H)) wn rfl rfl (hcb (j1+1+k) _ _ _ _ ⟨_,pJ.part k _ (fH Uu),_,rfl,zx⟩ (fun b o h=>vM b o (Ea b o (nO b o (hgm b o h)))) hI (Hp.owns (Li:=([_,_,_,_,_,_]++bk)++mP ds) (St.un (A:=[_,_,_,_,_,_]++bk) (St.un (A:=[_,_,_,_,_,_]) H)).hp)) rfl ?_;clear H;rintro v52 Nt KX a w ⟨b52,rfl,hb3,hb4⟩ Uy H
    simp only [iQ,mE,jB] at H
    refine kH H (Rn rfl (Kz gq (Cd rfl ?_ ?_))) <;> clear H gq
    ·intro dS a H
     refine dK ?_;refine (U0 (KX) _ _ _ _ _ (by exact H.dx (Pl:=[_,_,_,_,_,_]) (bZ:=[_,_,_,_]) [0,3,4,5] (by decide) rfl) ?_).1 rfl;exact hb4 (by simpa using dS)
    intro dS a H
    refine fT ?_;refine UE (KX) _ _ _ _ _ (by exact H.dx (Pl:=[_,_,_,_,_,_]) (bZ:=[_,_,_,_]) [0,3,4,5] (by decide) rfl) ?_;exact hb3 (by simpa using dS)
   ·clear H;intro KI vZ KO a w vM hI H;dsimp only [lca,aO] at H;refine K6 _ _ ?_;clear K6;refine kP H (SC (Rd rfl (Rm rfl ?_)));clear H;intro a H;refine aH ?_;refine Ip ((k+1,at_+sV l[k],j1+1+(jY (kL l[k])).length,vZ,KO,KI :: ds)) (by exact (H.dx (Pl:=[_,_,_,_]) (bZ:=[_,_]) [3,0] (by decide) rfl).sub ⟨rfl,rfl,rfl,rfl,rfl,rfl,av⟩) ?_ ?_
    ·(try dsimp only);exact ⟨by omega,fun b o h=>vM b o (Ea b o (nO b o (hgm b o h))),pJ.jump (by simpa using hI),by omega,by show at_+(sV l[k]:Int)+(eu ((l.drop (k+1)).map aC.dat):Nat)≤n;omega⟩
    first|omega|(dsimp only;omega)
   clear H;intro KI Lx KO a w vM hI H;dsimp only [lca,aO] at H;refine dK ?_;refine (Am H 0 rfl ?_).1;clear H;intro a w H;dsimp only [List.eraseIdx_cons_succ,List.eraseIdx_cons_zero] at H;refine (Ao (Lh:=[_,_,_]) _ H ?_).1;clear H;intro a w H;dsimp only [lca,aO] at H;refine (leave0 H results149 ?_).1
   first
    | exact H.hp.bU (L':=Lx) (by repeat (first|exact cu _|apply List.Sublist.cons)) (.inr hI)
    | exact H.hp.bU (L':=EO) (by repeat (first|exact cu _|apply List.Sublist.cons)) (.inr (hb2 (by simpa using kT)))
    | exact H.hp.bU (L':=Lt) (by repeat (first|exact cu _|apply List.Sublist.cons)) (.inl (by rw [eU (by omega),fZ] at bP;have:=bP.len;simp only [List.length_nil,nT] at this;(try rw [bN]);rw [← this];exact bP.now))
  intro h37 a H
  try have p37:=dF h37
  first
   | (have hn6:¬ l[k].kind=6:=p37)
   | (have OY:¬ l[k].kind=7:=p37)
  refine kP H (Kc K6 (SC (Rd rfl (Rm rfl ?_))));clear H K6;intro a H;refine aH ?_;refine Ip ((k+1,at_+sV l[k],j1,Lt,g,ds)) (by exact (H.dx (Pl:=[_,_,_]) (bZ:=[_]) [2] (by decide) rfl).sub ⟨rfl,rfl,rfl,rfl,rfl,rfl,av⟩) ?_ ?_
  ·(try dsimp only);exact ⟨by omega,hgm,by rw [Kh,ah (by omega),jB] at bP;exact bP,by omega,by show at_+(sV l[k]:Int)+(eu ((l.drop (k+1)).map aC.dat):Nat)≤n;omega⟩
  first|omega|(dsimp only;omega)
 intro jV a H
 try have qo:=dF jV
 refine dJ ?_;refine (Ao (Lh:=[_]) _ H ?_).2;clear H;intro a w H;dsimp only [lca,aO] at H;refine (leave0 H results149 ?_).1
 first
  | exact H.hp.bU (L':=Lx) (by repeat (first|exact cu _|apply List.Sublist.cons)) (.inr hI)
  | exact H.hp.bU (L':=EO) (by repeat (first|exact cu _|apply List.Sublist.cons)) (.inr (hb2 (by simpa using kT)))
  | exact H.hp.bU (L':=Lt) (by repeat (first|exact cu _|apply List.Sublist.cons)) (.inl (by rw [eU (by omega),fZ] at bP;have:=bP.len;simp only [List.length_nil,nT] at this;(try rw [bN]);rw [← this];exact bP.now))
theorem acv:∀ n:Nat,n≤4294967297→I8 n
 | 0,_=>fun _ _ _ _ _ _ h=>absurd h (by omega)
 | n+1,hn=>anQ (acv n (by omega)) (by omega)
theorem anP (G:GH) (w0:World) (hG:Hold G w0) (l:List aC) (id:Int) (v:aj) (hz:bB l≤4294967296) (hv:aB G (.sl 11 (l.map aC.dat)) v) :
  Calls prog 84 #[vi id,v] w0 (bV w0 G fun u G'=>∃ bl bi,u=.func (.func 149) #[] #[(aP bl 0),(aP bi 0)]∧Iter prog G' u ((fZ id 0 l).map Aq)) :=
 VJ (acv 4294967297 (by omega)) G w0 hG l id v (by omega) hv
end
section
open Go.RowKit
theorem agE:∀ args w,(callFunc 151 args).run prog w=.ok (.enter 151 args) w:=enters func151 rfl (by kernel_rfl)
theorem agF:∀ args w,(callFunc 152 args).run prog w=.ok (.enter 152 args) w:=enters func152 rfl (by kernel_rfl)
theorem ahO:∀ args w,(callFunc 87 args).run prog w=.ok (.enter 87 args) w:=enters func87 rfl (by kernel_rfl)
theorem ahM:∀ args w,(callFunc 85 args).run prog w=.ok (.enter 85 args) w:=enters func85 rfl (by kernel_rfl)
theorem ahP:∀ args w,(callFunc 88 args).run prog w=.ok (.enter 88 args) w:=enters func88 rfl (by kernel_rfl)
theorem ahN:∀ args w,(callFunc 86 args).run prog w=.ok (.enter 86 args) w:=enters func86 rfl (by kernel_rfl)
def wu (fv:aj) (G:GH) (d:List Dat) (b:Bool):Prop:=∀ (G1:GH) (w1:World) (cs:List aj),(∀ b o,G b=some o→G1 b=some o)→Hold G1 w1→bM G1 d cs →
 yN prog fv [.agg cs.toArray] w1 (bV w1 G1 fun u G'=>u=.bool b)
def qN (o:Option Nat):Int:=match o with|some i=>i|none=>-1
theorem alZ (G:GH) (w0:World) (hG:Hold G w0) (l:List bH) (p:bH→Bool) (v fv:aj) (hv:aB G (.sl 6 (l.map bH.dat)) v) (hf:∀ x∈l,wu fv G x.dat (p x)) :
  Calls prog 151 #[v,fv] w0 (bV w0 G fun u G'=>u=vi (qN (l.findIdx? p))):=by
 obtain ⟨A,c,rfl,hc1,hc2,hg⟩:=hv.slice;have hml:maxLen=9223372036854775807:=rfl;rw [bN] at *;refine eN [(0,_),(1,_)] func151 rfl ntmps151 rfl rfl hG ?_;intro a H;refine kP H (SR fun _ K1=>ak K1 rfl (SQ fun _ K2=>SR fun _ K3=>Rm rfl (Rl jG rfl (Rm rfl (Kz K3 (SB ?_))))));clear H K1 K3;intro a H;skip;refine dV (ι:=Nat × GH) (Tc:=[(0,_),(1,_),(7,_)]) (Lc:=[]) (fun gh=>[(8,vi gh.1)]) (fun gh=>[]) (fun gh=>gh.2) (fun gh=>gh.1≤l.length∧(l.take gh.1).findIdx? p=none∧(∀ b o,G b=some o→gh.2 b=some o)) (fun gh=>l.length - gh.1) ((0,G)) (by exact (H).sub ⟨rfl,rfl,rfl,rfl,av⟩) ?_ ?_
 ·exact ⟨by omega,rfl,fun _ _ h=>h⟩
 clear H;rintro ⟨k,g⟩ a w hI H;dsimp only at hI H;obtain ⟨hk,hno,hgm⟩:=hI;dsimp only [lca,aO] at H;refine kP H (SR fun _ K4=>Rc rfl (Kz K4 (SQ fun _ K5=>Cd rfl ?_ ?_))) <;> clear H K4
 ·intro h9 a H
  try have p9:=dT h9
  have hk2:k < l.length:=by omega
  obtain ⟨b,o,cs,rfl,hcl,hrow,hrep⟩:=hg k l[k].dat (by simp [hk2]);obtain ⟨pA,pn,pc,dA,dn,dc,yA,yn,yc,fA,fn,fc,rfl,-⟩:=hrep.row;replace hrow:=fun j u hj=>aJ hgm (hrow j u hj);refine kP H (Kc K5 (SQ fun _ K6=>SB (SR fun _ K7=>Rm rfl (ak K7 rfl (SR fun _ K8=>Rm rfl (Rm rfl (Rm rfl (Ri jG jJ rfl rfl ?_))))))));clear H K5 K7;intro a H;refine bK jJ (cs:=[_,_,_,_,_,_]) H wn rfl rfl (fun j v hj=>H.hp.aF (hrow j v hj)) rfl ?_;clear H;intro a H;refine vP H wn rfl rfl (hf _ (jD hk2) _ _ _ hgm H.ro (hrep.mono hgm)) rfl ?_;clear H;rintro v16 zV a w rfl Ak H;refine K8 _ _ ?_;clear K8;refine qG H rfl ?_ ?_
  ·intro h16
   try have p16:=dT h16
   refine kP H (SR fun _ K9=>Rm rfl (ak K9 rfl ?_));clear H K9;intro a H;refine lr H results151 rfl ?_
   first
    | exact H.rt (by rw [zy hk2 hno h16];rfl)
    | exact H.rt (by rw [show l.take k=l from mF (by omega)] at hno;rw [hno];rfl)
  intro h16
  try have p16:=dF h16
  refine kP H (Kc K6 (SC (Rd rfl (Rm rfl ?_))));clear H K6;intro a H;refine aH ?_;refine cB ((k+1,zV)) (by exact (H).sub ⟨rfl,rfl,rfl,rfl,av⟩) ?_ ?_
  ·(try dsimp only);exact ⟨by omega,Ih hk2 hno h16,fun b o h=>Ak b o (hgm b o h)⟩
  first|omega|(dsimp only;omega)
 intro h9 a H
 try have p9:=dF h9
 refine dJ ?_;refine K2 _ _ ?_;clear K2;refine kP H (SR fun _ aU=>ak aU rfl ?_);clear H aU;intro a H;refine lr H results151 rfl ?_
 first
  | exact H.rt (by rw [zy hk2 hno h16];rfl)
  | exact H.rt (by rw [show l.take k=l from mF (by omega)] at hno;rw [hno];rfl)
theorem afW (G:GH) (w0:World) (hG:Hold G w0) (l:List bH) (p:bH→Bool) (v fv:aj) (hv:aB G (.sl 6 (l.map bH.dat)) v) (hf:∀ x∈l,wu fv G x.dat (p x)) :
  Calls prog 85 #[v,fv] w0 (bV w0 G fun u G'=>u=.bool (l.findIdx? p).isSome):=by
 refine eN [(0,_),(1,_)] func85 rfl ntmps85 rfl rfl hG ?_;intro a H;refine kP H (SR fun _ K1=>ak K1 rfl (SR fun _ K2=>Rm rfl (Rm rfl ?_)));clear H K1;intro a H;refine s_call agE H wn rfl (alZ _ _ H.ro l p _ _ hv hf) rfl ?_;clear H;rintro v7 G7 a w rfl yh H;refine kH H (Rc rfl (ak K2 rfl ?_));clear H K2;intro a H;refine lr H results85 rfl ?_
 exact H.rt (by cases h:l.findIdx? p <;> simp [qN])
theorem alY (G:GH) (w0:World) (hG:Hold G w0) (l:List bq) (p:bq→Bool) (v fv:aj) (hv:aB G (.sl 7 (l.map bq.dat)) v) (hf:∀ x∈l,wu fv G x.dat (p x)) :
  Calls prog 152 #[v,fv] w0 (bV w0 G fun u G'=>u=vi (qN (l.findIdx? p))):=by
 obtain ⟨A,c,rfl,hc1,hc2,hg⟩:=hv.slice;have hml:maxLen=9223372036854775807:=rfl;rw [bN] at *;refine eN [(0,_),(1,_)] func152 rfl ntmps152 rfl rfl hG ?_;intro a H;refine kP H (SR fun _ K1=>ak K1 rfl (SQ fun _ K2=>SR fun _ K3=>Rm rfl (Rl lQ rfl (Rm rfl (Kz K3 (SB ?_))))));clear H K1 K3;intro a H;skip;refine dV (ι:=Nat × GH) (Tc:=[(0,_),(1,_),(7,_)]) (Lc:=[]) (fun gh=>[(8,vi gh.1)]) (fun gh=>[]) (fun gh=>gh.2) (fun gh=>gh.1≤l.length∧(l.take gh.1).findIdx? p=none∧(∀ b o,G b=some o→gh.2 b=some o)) (fun gh=>l.length - gh.1) ((0,G)) (by exact (H).sub ⟨rfl,rfl,rfl,rfl,av⟩) ?_ ?_
 ·exact ⟨by omega,rfl,fun _ _ h=>h⟩
 clear H;rintro ⟨k,g⟩ a w hI H;dsimp only at hI H;obtain ⟨hk,hno,hgm⟩:=hI;dsimp only [lca,aO] at H;refine kP H (SR fun _ K4=>Rc rfl (Kz K4 (SQ fun _ K5=>Cd rfl ?_ ?_))) <;> clear H K4
 ·intro h9 a H
  try have p9:=dT h9
  have hk2:k < l.length:=by omega
  obtain ⟨b,o,cs,rfl,hcl,hrow,hrep⟩:=hg k l[k].dat (by simp [hk2]);obtain ⟨pA,pn,pc,dA,dn,dc,yA,yn,yc,fA,fn,fc,rfl,-⟩:=hrep.cell;replace hrow:=fun j u hj=>aJ hgm (hrow j u hj);refine kP H (Kc K5 (SQ fun _ K6=>SB (SR fun _ K7=>Rm rfl (ak K7 rfl (SR fun _ K8=>Rm rfl (Rm rfl (Rm rfl (Ri lQ jK rfl rfl ?_))))))));clear H K5 K7;intro a H;refine bK jK (cs:=[_,_,_,_,_,_,_]) H wn rfl rfl (fun j v hj=>H.hp.aF (hrow j v hj)) rfl ?_;clear H;intro a H;refine vP H wn rfl rfl (hf _ (jD hk2) _ _ _ hgm H.ro (hrep.mono hgm)) rfl ?_;clear H;rintro v16 zV a w rfl Ak H;refine K8 _ _ ?_;clear K8;refine qG H rfl ?_ ?_
  ·intro h16
   try have p16:=dT h16
   refine kP H (SR fun _ K9=>Rm rfl (ak K9 rfl ?_));clear H K9;intro a H;refine lr H results152 rfl ?_
   first
    | exact H.rt (by rw [zy hk2 hno h16];rfl)
    | exact H.rt (by rw [show l.take k=l from mF (by omega)] at hno;rw [hno];rfl)
  intro h16
  try have p16:=dF h16
  refine kP H (Kc K6 (SC (Rd rfl (Rm rfl ?_))));clear H K6;intro a H;refine aH ?_;refine cB ((k+1,zV)) (by exact (H).sub ⟨rfl,rfl,rfl,rfl,av⟩) ?_ ?_
  ·(try dsimp only);exact ⟨by omega,Ih hk2 hno h16,fun b o h=>Ak b o (hgm b o h)⟩
  first|omega|(dsimp only;omega)
 intro h9 a H
 try have p9:=dF h9
 refine dJ ?_;refine K2 _ _ ?_;clear K2;refine kP H (SR fun _ aU=>ak aU rfl ?_);clear H aU;intro a H;refine lr H results152 rfl ?_
 first
  | exact H.rt (by rw [zy hk2 hno h16];rfl)
  | exact H.rt (by rw [show l.take k=l from mF (by omega)] at hno;rw [hno];rfl)
theorem afV (G:GH) (w0:World) (hG:Hold G w0) (l:List bq) (p:bq→Bool) (v fv:aj) (hv:aB G (.sl 7 (l.map bq.dat)) v) (hf:∀ x∈l,wu fv G x.dat (p x)) :
  Calls prog 87 #[v,fv] w0 (bV w0 G fun u G'=>u=.bool (l.findIdx? p).isSome):=by
 refine eN [(0,_),(1,_)] func87 rfl ntmps87 rfl rfl hG ?_;intro a H;refine kP H (SR fun _ K1=>ak K1 rfl (SR fun _ K2=>Rm rfl (Rm rfl ?_)));clear H K1;intro a H;refine s_call agF H wn rfl (alY _ _ H.ro l p _ _ hv hf) rfl ?_;clear H;rintro v7 G7 a w rfl yh H;refine kH H (Rc rfl (ak K2 rfl ?_));clear H K2;intro a H;refine lr H results87 rfl ?_
 exact H.rt (by cases h:l.findIdx? p <;> simp [qN])
def Pq (id:Int) (r:bH):Bool:=(r.cells.findIdx? fun c=>decide (c.id=id)).isSome
def J2 (id:Int) (x:aC):Bool:=decide (x.id=id) || (x.rows.findIdx? (Pq id)).isSome
theorem anN {G:GH} {bi:Nat} {id:Int} (hb:aF G bi 0=some (vi id)) (c:bq):wu (.func (.func 88) #[] #[(aP bi 0)]) G c.dat (decide (c.id=id)):=by
 intro G1 w0 cs hm hG hr;refine nk (caps:=[(aP bi 0)]) ahP ?_;obtain ⟨pA,pn,pc,dA,dn,dc,yA,yn,yc,fA,fn,fc,rfl,-⟩:=hr.cell;replace hb:=aJ hm hb;refine eN [(0,_),(1,_)] func88 rfl ntmps88 rfl rfl hG ?_;intro a H;refine cO (fun _ K1=>?_);refine fD (cs:=[_,_,_,_,_,_,_]) H wn rfl rfl rfl ?_;clear H;intro b2 a w hb2 H;refine kH H (ak K1 rfl (SR fun _ K2=>aR DC aD 0 rfl rfl (Rg aD rfl (by assumption) ?_)));clear H K1;intro a H;exact kH H (Rc rfl (ak K2 rfl (LR results88 rfl fun H=>H.rt rfl)))
theorem anM {G:GH} {bi:Nat} {id:Int} (hb:aF G bi 0=some (vi id)) (r:bH):wu (.func (.func 86) #[] #[(aP bi 0)]) G r.dat (Pq id r):=by
 intro G1 w0 cs hm hG hr;refine nk (caps:=[(aP bi 0)]) ahN ?_;obtain ⟨pA,pn,pc,dA,dn,dc,yA,yn,yc,fA,fn,fc,rfl,-,hcl⟩:=hr.row;replace hb:=aJ hm hb;refine eN [(0,_),(1,_)] func86 rfl ntmps86 rfl rfl hG ?_;intro a H;refine cO (fun _ K1=>?_);refine fD (cs:=[_,_,_,_,_,_]) H wn rfl rfl rfl ?_;clear H;intro b2 a w hb2 H;refine kH H (ak K1 rfl (SR fun _ K2=>aR qh qy 0 rfl rfl ?_));clear H K1;intro a H;refine pO H wn rfl rfl ?_;clear H;intro a H;refine s_call ahO H wn rfl (afV _ _ H.ro r.cells (fun c=>decide (c.id=id)) _ _ hcl (fun c _=>anN hb c)) rfl ?_;clear H;rintro v7 G7 a w rfl yh H;exact kH H (ak K2 rfl (LR results86 rfl fun H=>H.rt rfl))
def CV (l:List aC) (id:Int):Option (Int × Int):=((fZ 0 0 l).find? fun a=>J2 id a.2).map (·.1)
theorem anO (G:GH) (w0:World) (hG:Hold G w0) (D:jP) (l:List aC) (id:Int) (hv:aB G (.sl 11 (l.map aC.dat)) (bg D.f)) (hz:bB l≤4294967296) :
  Calls prog 37 #[D.val,vi id] w0 (bV w0 G fun u G'=>u=.tuple #[.agg #[vi ((CV l id).getD (0,0)).1,vi ((CV l id).getD (0,0)).2],.bool (CV l id).isSome]):=by
 refine eN [(0,_),(1,_)] func37 rfl ntmps37 rfl rfl hG ?_;intro a H;refine cO (fun _ K1=>?_);refine fD (cs:=[_,_,_,_,_,_,_,_,_,_,_]) H wn rfl rfl rfl ?_;clear H;intro b2 a w hb2 H;refine fD (cs:=[_]) H wn rfl rfl rfl ?_;clear H;intro b3 a w hb3 H;refine dY kE H wn rfl ?_;clear H;intro b4 a w hb4 H;refine dY sS H wn rfl ?_;clear H;intro b5 a w hb5 H;refine K1 _ _ ?_;clear K1;refine aN (fun _ K2=>?_);refine aN (fun _ K3=>?_);have H:=H.dx (Pl:=[_,_,_,_]) (bZ:=[_,_,_,_]) [2,0,1,3] (by decide) rfl;obtain ⟨Ga,hma,hb3,H⟩:=H.eD
 have hbi:aF Ga b3 0=some (vi id):=by unfold aF;rw [hb3];rfl
 refine kP H (SC (aR Bf jy 2 rfl rfl ?_));clear H;intro a H;refine s_call RY H wn rfl (anP _ _ H.ro l 0 _ hz (hv.mono hma)) rfl ?_;clear H;rintro v11 zT a w ⟨bl,bi,rfl,hit⟩ H8 H;refine aH ?_;refine K3 _ _ ?_;clear K3;refine uy ?_;skip;refine Dw (ι:=Unit) (κ:=Int × Int) (Lc:=[(_,_)]) (fun (k:Nat) (gh:Unit)=>[(b4,.cells #[vi 0,vi 0] 48 (0,0)),(b5,.cells #[.bool false] 4 (0,0))]) (fun (k:Nat) (gh:Unit)=>[]) (fun (k:Nat) (gh:Unit) (g:GH)=>((fZ 0 0 l).take k).find? (fun a=>J2 id a.2)=none) (fun (gx:Int × Int)=>Code.ret) (fun (gx:Int × Int)=>[(b4,.cells #[vi gx.1,vi gx.2] 48 (0,0)),(b5,.cells #[.bool true] 4 (0,0))]) (fun (gx:Int × Int)=>[]) (fun (gx:Int × Int) (g:GH)=>CV l id=some gx) (()) (by exact H.dx (Pl:=[_,_,_]) (bZ:=[_,_,_]) [2,1,0] (by decide) rfl) rfl Oc (hit) (fun _ _ h=>h) rfl (fun k args g h=>by obtain ⟨_,_,rfl,_⟩:=CU h;rfl) (fun _ _ _ _ _ h=>h) (fun _ _ _ _ h=>h) (rfl) ?_ ?_ ?_
 ·clear H;intro l2 xg uw bk k args gh G2 w2 F2 B2 a hk2 hm2 hI ajI akH aaS H;obtain ⟨hk,NY,rfl,zx⟩:=CU hk2;obtain ⟨aA,an,ac,bA,bn,bc,NZ,N8,N7,N9,Oh,Oa,Pn,Pp,Po,rfl,hh8,hf8,hr8⟩:=zx.item;dsimp only [tu,List.cons_append,List.nil_append] at H;replace hbi:=aJ hm2 (aJ H8 hbi);refine cO (fun _ K4=>?_);refine dY kE H wn rfl ?_;clear H;intro b6 a w hb6 H;refine bT kE 0 (vs:=[_,_]) _ H wn rfl rfl rfl rfl rfl rfl rfl rfl ?_;clear H;intro w H;dsimp only [List.set,setRow] at H;refine K4 _ _ ?_;clear K4;refine rz ?_;refine dY eH H wn rfl ?_;clear H;intro b7 a w yg H;refine bT eH 0 (vs:=[_,_,_,_,_,_,_,_,_,_,_]) _ H wn rfl rfl rfl rfl rfl rfl rfl rfl ?_;clear H;intro w H;dsimp only [List.set,setRow] at H;refine aH ?_;refine ajI _ _ _ _ _ _ (by exact H.dx (Pl:=[_,_,_,_,_,_]) (bZ:=[_,_,_,_,_,_]) [2,0,1,3,4,5] (by decide) rfl) ?_;clear H;intro w H;refine kP H (SB (SR fun _ K5=>aR qH qR 1 rfl rfl ?_));clear H;intro a H;refine pO H wn rfl rfl ?_;clear H;intro a H;refine s_call ahM H wn rfl (afW _ _ H.ro _ (Pq id) _ _ hr8 (fun r _=>anM hbi r)) rfl ?_;clear H;rintro v17 WZ a w rfl Fw H;replace hbi:=aJ Fw hbi;refine kH H (ak K5 rfl (SR fun _ K6=>aR vE aD 1 rfl rfl (Rg aD rfl (by assumption) ?_)));clear H K5;intro a H;refine kH H (Rc rfl (Rm rfl (Sp 22 rfl ?_ ?_))) <;> clear H
  ·intro h22 a H
   try have jv:=dT h22
   refine kH H (Ks h22 rfl (Pt h22 rfl (Kz K6 (Ct rfl rfl (SR fun _ K7=>?_)))));clear H K6;intro a H;refine bK kE (cs:=[_,_]) H wn rfl rfl (H.hp.fG 2 rfl rfl) rfl ?_;clear H;intro a H;refine bT kE 4 (vs:=[_,_]) _ H wn rfl rfl rfl rfl rfl rfl rfl rfl ?_;clear H;intro w H;dsimp only [List.set,setRow] at H;refine bT sS 5 (vs:=[_]) _ H wn rfl rfl rfl rfl rfl rfl rfl rfl ?_;clear H;intro w H;dsimp only [List.set,setRow] at H;refine K7 _ _ ?_;clear K7;refine dK ?_;refine (aaS ((fZ 0 0 l)[k].1) _ _ _ _ _ (by exact H.dx (Pl:=[_,_,_,_,_,_]) (bZ:=[_,_,_,_]) [0,3,4,5] (by decide) rfl) ?_).1 rfl;exact (by unfold CV;rw [Zy hk hI (by unfold J2;simp_all)];rfl)
  intro h22 a H
  try have jv:=dF h22
  refine kH H (YM h22 rfl (Pf h22 rfl (Kz K6 (Cd rfl ?_ ?_)))) <;> clear H K6
  ·intro iy a H
   try have ow:=dT iy
   refine cO (fun _ K8=>?_);refine bK kE (cs:=[_,_]) H wn rfl rfl (H.hp.fG 2 rfl rfl) rfl ?_;clear H;intro a H;refine bT kE 4 (vs:=[_,_]) _ H wn rfl rfl rfl rfl rfl rfl rfl rfl ?_;clear H;intro w H;dsimp only [List.set,setRow] at H;refine bT sS 5 (vs:=[_]) _ H wn rfl rfl rfl rfl rfl rfl rfl rfl ?_;clear H;intro w H;dsimp only [List.set,setRow] at H;refine K8 _ _ ?_;clear K8;refine dK ?_;refine (aaS ((fZ 0 0 l)[k].1) _ _ _ _ _ (by exact H.dx (Pl:=[_,_,_,_,_,_]) (bZ:=[_,_,_,_]) [0,3,4,5] (by decide) rfl) ?_).1 rfl;exact (by unfold CV;rw [Zy hk hI (by unfold J2;simp_all)];rfl)
  intro iy a H
  try have ow:=dF iy
  refine fT ?_;refine akH (()) _ _ _ _ _ (by exact H.dx (Pl:=[_,_,_,_,_,_]) (bZ:=[_,_,_,_]) [0,3,4,5] (by decide) rfl) ?_;exact aiu hk hI (by unfold J2;simp_all)
 ·clear H;intro Dk2 gh Gd2 a w hm2 hI H;dsimp only [lca,aO] at H;refine K2 _ _ ?_;clear K2;refine cO (fun _ K9=>?_);refine mq Kq [_,_] H wn rfl rfl rfl rfl ?_;clear H;intro a H;refine bT kE 2 (vs:=[_,_]) _ H wn rfl rfl rfl rfl rfl rfl rfl rfl ?_;clear H;intro w H;dsimp only [List.set,setRow] at H;refine bT sS 3 (vs:=[_]) _ H wn rfl rfl rfl rfl rfl rfl rfl rfl ?_;clear H;intro w H;dsimp only [List.set,setRow] at H;refine K9 _ _ ?_;clear K9;refine dK ?_;refine (Am H 0 rfl ?_).1;clear H;intro a w H;dsimp only [List.eraseIdx_cons_succ,List.eraseIdx_cons_zero] at H;refine (gY H results37 (.cons (M6 kE (cs:=[_,_]) H rfl rfl (H.hp.fG 1 rfl rfl)) (.cons (BM sS H rfl (H.hp.tN 2 rfl rfl)) .nil)) ?_).1
  have h:CV l id=none:=by unfold CV;rw [ais (by simpa using hI)];rfl
  exact H.rt (by rw [h];rfl)
 clear H;intro Dk2 x Gd2 a w hm2 hI H;dsimp only [lca,aO] at H;refine dK ?_;refine (Am H 0 rfl ?_).1;clear H;intro a w H;dsimp only [List.eraseIdx_cons_succ,List.eraseIdx_cons_zero] at H;refine (gY H results37 (.cons (M6 kE (cs:=[_,_]) H rfl rfl (H.hp.fG 1 rfl rfl)) (.cons (BM sS H rfl (H.hp.tN 2 rfl rfl)) .nil)) ?_).1;exact H.rt (by rw [hI];rfl)
end
section
open Go.RowKit
def Pw (a:(Int × Int) × aC):Bool:=decide (a.2.kind=7)
def Az (l:List aC):List ((Int × Int) × aC):=(fZ 0 0 l).filter Pw
mutual
theorem anG (f t:Int):∀ x:aC,(FL f t x).length≤dh x.dat
 | .mk k c i tx h fl r=>by
  have h4:=oN (.mk k c i tx h fl r);have hf:=PY i 0 fl;have hr:=acs r;dsimp only [aC.text,aC.head,aC.flow,aC.rows] at h4;rw [FL]
  split
  ·rw [jZ];omega
  split
  ·rw [jZ];omega
  simp
theorem PY (f:Int):∀ (t:Int) (l:List aC),(fZ f t l).length≤bB l
 | _,[]=>by simp [fZ]
 | t,x :: l=>by
  have h1:=anG f t x;have h2:=PY f (t+sV x) l;rw [fZ,jC]
  simp only [bB,dW,eu] at *;omega
theorem anH:∀ x:bH,(Iy x).length≤dh x.dat
 | .mk h cs=>by
  have h4:=tY (.mk h cs);have hc:=aco cs;dsimp only [bH.head,bH.cells] at h4;rw [Iy];omega
theorem acs:∀ l:List bH,(sN l).length≤eG l
 | []=>by simp [sN]
 | x :: l=>by
  have h1:=anH x;have h2:=acs l;rw [sN,jC]
  simp only [eG,dW,eu] at *;omega
theorem anF:∀ x:bq,(FK x).length≤dh x.dat
 | .mk i h f=>by
  have h4:=uX (.mk i h f);have hf:=PY i 0 f;dsimp only [bq.head,bq.flow] at h4;rw [FK];omega
theorem aco:∀ l:List bq,(jY l).length≤iC l
 | []=>by simp [jY]
 | x :: l=>by
  have h1:=anF x;have h2:=aco l;rw [jY,jC]
  simp only [iC,dW,eu] at *;omega
end
end
section
open Go.RowKit
theorem V7:I9 prog 287:=⟨by kernel_rfl⟩
theorem afx:prog.cellsOf 5=1:=by kernel_rfl
theorem ani (v:aj) (w:World):(callFunc 246 #[v]).run prog w=.ok (.value v) w:=aoy func246 (by kernel_rfl) (by kernel_rfl) (by kernel_rfl) (by kernel_rfl) v w
theorem Ng:prog.underlying 285=some (.pointer 287):=by kernel_rfl
theorem adw:prog.underlying 309=some .unsafePointer:=by kernel_rfl
theorem LU:dL prog 287 0 0:=⟨by kernel_rfl⟩
theorem Na:Ty prog 285 1 8 [.pointer none] false:=⟨by kernel_rfl,by kernel_rfl⟩
theorem aqb:prog.underlying 311=some (.pointer 5):=by kernel_rfl
theorem Js:dL prog 287 1 1:=⟨by kernel_rfl⟩
theorem Ky:Ty prog 282 1 24 [.slice none 0 0] false:=⟨by kernel_rfl,by kernel_rfl⟩
theorem IK:prog.underlying 282=some (.slice 5):=by kernel_rfl
end
section
open Go.RowKit
def BH (p:Nat→Bool):Nat→Nat→Nat→Nat
 | 0,i,_=>i
 | f+1,i,j=>if i < j then (if p ((i+j) / 2) then BH p f i ((i+j) / 2) else BH p f ((i+j) / 2+1) j) else i
theorem alN {p:Nat→Bool} {f i j:Nat} (hf:j - i≤f) (h:i < j):BH p f i j=if p ((i+j) / 2) then BH p (f - 1) i ((i+j) / 2) else BH p (f - 1) ((i+j) / 2+1) j:=by
 match f,hf with
 | 0,hf=>omega
 | f+1,_=>rw [BH,au h];rfl
theorem alL {p:Nat→Bool} {f i j:Nat} (h:¬ i < j):BH p f i j=i:=by
 match f with
 | 0=>rfl
 | f+1=>rw [BH,ah h]
theorem alO {z:Int} (h1:0≤z) (h2:z < 18446744073709551616):IntKind.u64.wrap z=z:=by
 simp only [IntKind.wrap,IntKind.bits,IntKind.signed,uo,Jb,if_false]
 omega
theorem alM (n:Nat):((n:Nat):Int).fdiv (2 ^ 1)=((n / 2:Nat):Int):=by
 rw [Int.fdiv_eq_ediv_of_nonneg _ (by decide)];omega
def Dy (a b:Int):Int:=if a < b then -1 else if b < a then 1 else 0
theorem Yu {a b:Int}:Dy a b < 0↔a < b:=by
 unfold Dy
 split
 ·simp [*]
 ·split <;> simp_all
theorem afR {a b:Int}:Dy a b=0↔a=b:=by
 unfold Dy
 split
 ·omega
 ·split <;> omega
def Cj (ks:List Int) (t:Int):Nat:=BH (fun h=>decide (¬ ks.getD h 0 < t)) ks.length 0 ks.length
def Fp (ks:List Int) (t:Int):Bool:=decide (ks[Cj ks t]?=some t)
theorem ajt {ks:List Int} {t:Int} (h:Fp ks t=true):Cj ks t < ks.length:=by
 have:=oU h
 exact (kG.1 this).1
theorem ajs {ks:List Int} {t:Int} {n:Nat} (e:Cj ks t=n) (h:n < ks.length):Fp ks t=decide (Dy ks[n] t=0):=by
 unfold Fp
 rw [e,fH h]
 simp [afR]
theorem aju {ks:List Int} {t:Int} {n:Nat} (e:Cj ks t=n) (h:¬ n < ks.length):Fp ks t=false:=by
 unfold Fp
 rw [e,List.getElem?_eq_none (by omega)]
 simp
theorem getD_map {α:Type} {f:α→Int} {l:List α} {n:Nat} (h:n < l.length):(l.map f).getD n 0=f l[n]:=by
 simp [List.getD,h]
end
section
open Go.RowKit
structure XQ (P:Program) (s n off:Nat):Prop where
 h:(match P.underlying s with|some (.struct fs)=>(fs[n]?).bind fun f=>((P.underlying f.type).map (fun|.struct _=>true|.array _ _=>true|_=>false)).map fun g=>(f.offset,g)|_=>none)=some (off,false)
theorem XQ.parts {P:Program} {s n off:Nat} (h:XQ P s n off):∃ fs fl u,P.underlying s=some (.struct fs)∧fs[n]?=some fl∧P.underlying fl.type=some u∧(match u with|.struct _=>true|.array _ _=>true|_=>false)=false∧fl.offset=off:=by
 obtain ⟨h⟩:=h
 split at h
 ·rename_i fs hs
  obtain ⟨fl,hf,h2⟩:=Option.bind_eq_some_iff.1 h
  obtain ⟨b,hb,h3⟩:=oD.1 h2
  obtain ⟨u,hu,h4⟩:=oD.1 hb
  simp only [iU] at h3
  refine ⟨fs,fl,u,hs,hf,hu,?_,h3.1⟩
  rw [← h3.2,← h4]
  cases u <;> rfl
 ·cases h
section
variable {N:Nat} {D:List Deferred} {w0:World} {F:Nat→Prop} {G0 G:GH} {L Li Lo:OL} {T:List (Nat × aj)}
variable {r:Option Nat} {P:Program} {ops:Array Oper} {Q:Exit→Act→World→Prop} {rest:List Oper} {a:Act} {w:World}
variable {d:Nat} {ty:TypeId} {pos:String} {aS:Array Edge} {g:Option (Nat × Bool)}
theorem V5 {t:TypeId} {x y:Operand} {s:ByteArray} {ky:IntKind} {p:Int} (lo:Nat) (ht:P.underlying t=some .string) (H:St N D w0 F G0 G L T a w) (hw:Region.wanted ⟨some d,.slice t x (some y) none none,ty,pos,aS,g⟩ (yielded ops a.tmps)=true) (hx:ev T x=some (.string s)) (hy:ev T y=some (.int ky p)) (hp:p=(lo:Int)) (h1:lo≤s.size) (hd:Nat.blt d N=true)
  (k:∀ a',St N D w0 F G0 G L ((d,.string (s.extract lo s.size)) :: T) a' w→WL r P ops Q rest a' w):WL r P ops Q (⟨some d,.slice t x (some y) none none,ty,pos,aS,g⟩ :: rest) a w:=by
 subst hp
 have hr:=run_slice_string_l (P:=P) w t s ht ky (lo:Int) (by omega) (by omega)
 rw [Int.toNat_natCast] at hr
 refine ig (v:=.string (s.extract lo s.size)) (w':=w) hw rfl ?_ (k _ (H.put hd _ H.hp))
 simp only [execOp,H.ev hx,yU,Option.map_none,H.ev hy,eY,run_sliceAt_string w t _ _ _ _ ht,hr,pY,uj]
theorem aoS {t e:TypeId} {sz bytes:Nat} {zero:List aj} {agg:Bool} (hs:P.underlying t=some (.slice e)) (ht:Ty P e sz bytes zero agg) {x y:Operand} {A:Option Addr} {n c:Nat} (lo:Nat) {p:Int} (H:St N D w0 F G0 G L T a w)
  (hw:Region.wanted ⟨some d,.slice t x (some y) none none,ty,pos,aS,g⟩ (yielded ops a.tmps)=true) (hx:ev T x=some (.slice A n c)) (hy:ev T y=some (.int .i64 p)) (hp:p=(lo:Int)) (h1:lo≤n) (hd:Nat.blt d N=true)
  (k:∀ a',St N D w0 F G0 G L ((d,.slice (if c=lo then A else A.map (·.add (lo*sz))) (n - lo) (c - lo)) :: T) a' w→WL r P ops Q rest a' w):WL r P ops Q (⟨some d,.slice t x (some y) none none,ty,pos,aS,g⟩ :: rest) a w:=by
 subst hp
 refine ig (v:=.slice (if c=lo then A else A.map (·.add (lo*sz))) (n - lo) (c - lo)) (w':=w) hw rfl ?_ (k _ (H.put hd _ H.hp))
 simp [execOp,H.ev hx,H.ev hy,Instr.sliceAt,Instr.slice,Instr.sliceBounds,Instr.sliceBound,eY,oM hs,ht.CX,asIntOf,h1]
end
end
section
open Go.RowKit
theorem Nf:prog.underlying 262=some (.slice 224):=by kernel_rfl
theorem vT:Ty prog 224 6 56 [.int .i64 0,.int .i64 0,.int .i64 0,.int .i64 0,.int .i64 0,.string ⟨#[]⟩] true:=⟨by kernel_rfl,by kernel_rfl⟩
theorem acY:ug prog 224 [(0,1),(1,1),(2,1),(3,1),(4,1),(5,1)] [.int .i64 0,.int .i64 0,.int .i64 0,.int .i64 0,.int .i64 0,.string ⟨#[]⟩]:=⟨by kernel_rfl,by kernel_rfl⟩
theorem YV:∀ args w,(callFunc 173 args).run prog w=.ok (.enter 173 args) w:=enters func173 rfl (by kernel_rfl)
structure kF where
 num:Int
 Cv:Int
 low:Int
 high:Int
 std:Int
 name:ByteArray
def kF.dat (x:kF):List Dat:=[li x.num,li x.Cv,li x.low,li x.high,li x.std,.lf (.string x.name)]
def kF.cells (x:kF):List aj:=[vi x.num,vi x.Cv,vi x.low,vi x.high,vi x.std,.string x.name]
def jX.cells (x:jX):List aj:=[vi x.key,vi x.value]
theorem amn (G:GH) (x:kF):bM G x.dat x.cells:=by
 simp only [kF.dat,kF.cells,bM]
 exact ⟨_,_,rfl,by simp [aB,Value.oneCell'],_,_,rfl,by simp [aB,Value.oneCell'],_,_,rfl,by simp [aB,Value.oneCell'],_,_,rfl,by simp [aB,Value.oneCell'],_,_,rfl,by simp [aB,Value.oneCell'],_,_,rfl,by simp [aB,Value.oneCell'],rfl⟩
theorem amm {G:GH} {x:kF} {cs:List aj} (h:bM G x.dat cs):cs=x.cells:=by
 simp only [kF.dat,bM,aB] at h
 obtain ⟨v1,_,rfl,⟨rfl,-⟩,v2,_,rfl,⟨rfl,-⟩,v3,_,rfl,⟨rfl,-⟩,v4,_,rfl,⟨rfl,-⟩,v5,_,rfl,⟨rfl,-⟩,v6,_,rfl,⟨rfl,-⟩,rfl⟩:=h
 rfl
theorem anZ {G:GH} {x:jX} {cs:List aj} (h:bM G x.dat cs):cs=x.cells:=by
 simp only [jX.dat,bM,aB] at h
 obtain ⟨v1,_,rfl,⟨rfl,-⟩,v2,_,rfl,⟨rfl,-⟩,rfl⟩:=h
 rfl
theorem abx (G:GH):∀ (B A:List kF),gP G 6 (A.map kF.dat) (A.map kF.cells).flatten→gP G 6 ((A++B).map kF.dat) ((A++B).map kF.cells).flatten
 | [],A,h=>by rw [mW];exact h
 | x :: B,A,h=>by
  have h2:=h.snoc (amn G x) rfl;have h3:=abx G B (A++[x]) (by simpa using h2)
  simpa using h3
theorem amo (G:GH) (A:List kF):gP G 6 (A.map kF.dat) (A.map kF.cells).flatten:=abx G A [] gP.nil
theorem Vh {G:GH} {l:List kF} {A:Option Addr} {n c k:Nat} (hv:aB G (.sl 6 (l.map kF.dat)) (.slice A n c)) (hk:k < l.length):∃ b o,A=some ⟨b,o,none⟩∧(∀ j u,[vi l[k].num,vi l[k].Cv,vi l[k].low,vi l[k].high,vi l[k].std,.string l[k].name][j]?=some u→aF G b (o+k*6+j)=some u):=by
 obtain ⟨A',c',he,_,_,hg⟩:=hv.slice
 injection he with e1 e2 e3
 subst e1;obtain ⟨b,o,cs,h1,h2,h3,h4⟩:=hg k l[k].dat (by simp [hk]);obtain rfl:=amm h4;exact ⟨b,o,h1,h3⟩
theorem M4 {G:GH} {l:List jX} {A:Option Addr} {n c k:Nat} (hv:aB G (.sl 2 (l.map jX.dat)) (.slice A n c)) (hk:k < l.length):∃ b o,A=some ⟨b,o,none⟩∧(∀ j u,[vi l[k].key,vi l[k].value][j]?=some u→aF G b (o+k*2+j)=some u):=by
 obtain ⟨A',c',he,_,_,hg⟩:=hv.slice
 injection he with e1 e2 e3
 subst e1;obtain ⟨b,o,cs,h1,h2,h3,h4⟩:=hg k l[k].dat (by simp [hk]);obtain rfl:=anZ h4;exact ⟨b,o,h1,h3⟩
def Il:List kF:=[⟨1,1,0,1073741824,0,⟨#[99,104,97,114,97,99,116,101,114,45,115,116,121,108,101]⟩⟩,⟨2,1,0,1,0,⟨#[98,111,108,100]⟩⟩,⟨3,1,0,1,0,⟨#[105,116,97,108,105,99]⟩⟩,⟨4,1,0,3,0,⟨#[117,110,100,101,114,108,105,110,101]⟩⟩,⟨5,1,2,1638,22,⟨#[115,105,122,101]⟩⟩,⟨6,1,0,16777215,0,⟨#[99,111,108,111,114]⟩⟩,⟨7,1,0,63,0,⟨#[102,111,110,116]⟩⟩,⟨8,1,0,255,0,⟨#[108,97,110,103,117,97,103,101]⟩⟩,⟨9,1,-400,400,0,⟨#[114,97,105,115,101]⟩⟩,⟨10,1,0,1,0,⟨#[104,105,100,100,101,110]⟩⟩,⟨20,2,0,1073741824,0,⟨#[112,97,114,97,103,114,97,112,104,45,115,116,121,108,101]⟩⟩,⟨21,2,0,3,0,⟨#[97,108,105,103,110]⟩⟩,⟨22,2,-31680,31680,0,⟨#[108,101,102,116]⟩⟩,⟨23,2,-31680,31680,0,⟨#[114,105,103,104,116]⟩⟩,⟨24,2,-31680,31680,0,⟨#[102,105,114,115,116]⟩⟩,⟨25,2,0,31680,0,⟨#[98,101,102,111,114,101]⟩⟩,⟨26,2,0,31680,0,⟨#[97,102,116,101,114]⟩⟩,⟨27,2,0,31680,0,⟨#[108,101,97,100,105,110,103]⟩⟩,⟨28,2,0,1,0,⟨#[107,101,101,112,45,110,101,120,116]⟩⟩,⟨29,2,0,1,0,⟨#[107,101,101,112,45,108,105,110,101,115]⟩⟩,⟨30,2,0,1,1,⟨#[119,105,100,111,119]⟩⟩,⟨31,2,0,1,0,⟨#[112,97,103,101,45,98,101,102,111,114,101]⟩⟩,⟨32,2,0,9,0,⟨#[111,117,116,108,105,110,101]⟩⟩,⟨33,2,0,1073741824,0,⟨#[108,105,115,116]⟩⟩,⟨34,2,1,9,1,⟨#[108,101,118,101,108]⟩⟩,⟨35,2,0,32767,0,⟨#[114,101,115,116,97,114,116]⟩⟩,⟨36,2,1,31680,720,⟨#[116,97,98,45,115,116,111,112]⟩⟩,⟨37,2,0,1,0,⟨#[104,121,112,104,101,110,97,116,101]⟩⟩,⟨40,3,720,31680,12240,⟨#[112,97,103,101,45,119,105,100,116,104]⟩⟩,⟨41,3,720,31680,15840,⟨#[112,97,103,101,45,104,101,105,103,104,116]⟩⟩,⟨42,3,0,31680,1440,⟨#[116,111,112]⟩⟩,⟨43,3,0,31680,1440,⟨#[98,111,116,116,111,109]⟩⟩,⟨44,3,0,31680,1440,⟨#[105,110,110,101,114]⟩⟩,⟨45,3,0,31680,1440,⟨#[111,117,116,101,114]⟩⟩,⟨46,3,0,32767,0,⟨#[102,105,114,115,116,45,112,97,103,101]⟩⟩,⟨47,3,1,6,1,⟨#[112,97,103,101,45,102,111,114,109,97,116]⟩⟩,⟨50,4,0,1,0,⟨#[104,101,97,100,101,114]⟩⟩,⟨51,4,0,1,0,⟨#[99,97,110,116,45,115,112,108,105,116]⟩⟩,⟨52,4,0,31680,0,⟨#[114,111,119,45,104,101,105,103,104,116]⟩⟩,⟨60,5,1,32,1,⟨#[99,111,108,117,109,110,45,115,112,97,110]⟩⟩,⟨61,5,0,2,0,⟨#[118,101,114,116,105,99,97,108,45,109,101,114,103,101]⟩⟩,⟨62,5,0,31680,0,⟨#[99,101,108,108,45,119,105,100,116,104]⟩⟩,⟨63,5,0,16777215,16777215,⟨#[115,104,97,100,101]⟩⟩,⟨70,6,0,31680,0,⟨#[116,97,98,108,101,45,119,105,100,116,104]⟩⟩,⟨71,6,0,2,0,⟨#[116,97,98,108,101,45,97,108,105,103,110]⟩⟩]
set_option maxRecDepth 20000 in
theorem amq (G:GH) (w0:World) (hG:Hold G w0):Calls prog 203 #[] w0 (bV w0 G fun u G'=>aB G' (.sl 6 (Il.map kF.dat)) u):=by
 refine eN [] func203 rfl ntmps203 rfl rfl hG ?_;intro a H;refine kP H (SR fun _ K1=>ak K1 rfl (SR fun _ K2=>?_));clear H K1;intro a H;(iterate 45 refine mq acY [_,_,_,_,_,_] H wn rfl rfl rfl rfl ?_;clear H;intro a H);refine aoF Nf vT (Il.map kF.cells) H wn rfl rfl rfl rfl rfl rfl rfl ?_;clear H;intro b46 a w arw H;refine kH H (ak K2 rfl ?_);clear H K2;intro a H;refine lr H results203 rfl ?_;obtain ⟨Gz,hmz,hbz,H⟩:=H.eD;exact H.rt (aB.fC (n:=45) (cap:=45) hbz rfl (dB _) (show 45≤maxLen by decide) (mF (dB _)) (amo _ _))
theorem abu (G:GH) (w0:World) (hG:Hold G w0) (x:Int):Calls prog 173 #[vi x] w0 (bV w0 G fun u G'=>u=.bool false∧G=G'):=by
 refine eN [(0,_)] func173 rfl ntmps173 rfl rfl hG ?_;intro a H;exact kP H (SR fun _ K1=>ak K1 rfl (SR fun _ K2=>Rm rfl (Rm rfl (Rc rfl (ak K2 rfl (LR results173 rfl fun H=>H.rt ⟨by simp,rfl⟩))))))
theorem Rp {x y z:Int} (h:(x < y∧z=-1)∨(y < x∧z=1)∨(x=y∧z=0)):z=Dy x y:=by
 unfold Dy;split
 ·omega
 split <;> omega
theorem afT (G:GH) (w0:World) (hG:Hold G w0) (x y:Int):Calls prog 206 #[vi x,vi y] w0 (bV w0 G fun u G'=>u=vi (Dy x y)):=by
 refine eN [(0,_),(1,_)] func206 rfl ntmps206 rfl rfl hG ?_;intro a H;refine kP H (SR fun _ K1=>ak K1 rfl (SR fun _ K2=>Rm rfl ?_));clear H K1;intro a H;refine s_call YV H wn rfl (abu _ _ H.ro x) rfl ?_;clear H;rintro v8 G8 a w ⟨rfl,-⟩ Al H;refine kH H (ak K2 rfl (SR fun _ K3=>Rm rfl ?_));clear H K2;intro a H;refine s_call YV H wn rfl (abu _ _ H.ro y) rfl ?_;clear H;rintro v10 Nq a w ⟨rfl,-⟩ Cx H;refine kH H (ak K3 rfl (SQ fun _ K4=>SR fun _ K5=>Rm rfl (Kz K5 (Cd rfl ?_ ?_)))) <;> clear H K3 K5
 ·intro h11 a H
  cases h11
 intro h11 a H
 try have yC:=dF h11
 refine kP H (Kc K4 (SQ fun _ K6=>SR fun _ K7=>Rm rfl (Kz K7 (Cd rfl ?_ ?_)))) <;> clear H K4 K7
 ·intro eO a H
  cases eO
 intro eO a H
 try have nZ:=dF eO
 refine kP H (Kc K6 (SQ fun _ K8=>SR fun _ K9=>Rm rfl (Rm rfl (Rc rfl (Kz K9 (Cd rfl ?_ ?_)))))) <;> clear H K6 K9
 ·intro h16 a H
  try have p16:=dT h16
  exact kP H (SR fun _ aU=>ak aU rfl (LR results206 rfl fun H=>H.rt (ay vi (Rp (by omega)))))
 intro h16 a H
 try have p16:=dF h16
 refine kP H (Kc K8 (SQ fun _ bD=>SR fun _ bE=>Rm rfl (Rm rfl (Rc rfl (Kz bE (Cd rfl ?_ ?_)))))) <;> clear H K8 bE
 ·intro h19 a H
  try have zG:=dT h19
  exact kP H (SR fun _ bQ=>ak bQ rfl (LR results206 rfl fun H=>H.rt (ay vi (Rp (by omega)))))
 intro h19 a H
 try have zG:=dF h19
 exact kP H (Kc bD (SR fun _ bR=>ak bR rfl (LR results206 rfl fun H=>H.rt (ay vi (Rp (by omega))))))
end
section
open Go.RowKit
theorem aib:dL prog 224 0 0:=⟨by kernel_rfl⟩
theorem ahh:∀ args w,(callFunc 206 args).run prog w=.ok (.enter 206 args) w:=enters func206 rfl (by kernel_rfl)
theorem adx:prog.underlying 65=some (.int .u64):=by kernel_rfl
theorem ahg:∀ args w,(callFunc 205 args).run prog w=.ok (.enter 205 args) w:=enters func205 rfl (by kernel_rfl)
theorem Yl (G:GH) (w0:World) (hG:Hold G w0) (x:kF) (t:Int):yN prog (.func (.func 205) #[] #[]) [.agg x.cells.toArray,vi t] w0 (bV w0 G fun u G'=>u=vi (Dy x.num t)):=by
 refine nk (caps:=[]) ahg ?_;refine eN [(0,_),(1,_)] func205 rfl ntmps205 rfl rfl hG ?_;intro a H;refine cO (fun _ K1=>?_);refine fD (cs:=[_,_,_,_,_,_]) H wn rfl rfl rfl ?_;clear H;intro b2 a w hb2 H;refine kH H (ak K1 rfl (SR fun _ K2=>aR aib aD 0 rfl rfl (Rm rfl ?_)));clear H K1;intro a H;refine s_call ahh H wn rfl (afT _ _ H.ro x.num t) rfl ?_;clear H;rintro v8 G8 a w rfl Al H;exact kH H (ak K2 rfl (LR results205 rfl fun H=>H.rt rfl))
theorem aeZ (G:GH) (w0:World) (hG:Hold G w0) (l:List kF) (t:Int) (v:aj) (hv:aB G (.sl 6 (l.map kF.dat)) v) (hl:l.length≤4294967296) :
  Calls prog 204 #[v,vi t,.func (.func 205) #[] #[]] w0 (bV w0 G fun u G'=>u=.tuple #[vi (Cj (l.map kF.num) t),.bool (Fp (l.map kF.num) t)]):=by
 obtain ⟨A,c,rfl,hc1,hc2,-⟩:=hv.slice;rw [bN] at *;obtain ⟨p,hp⟩:∃ p:Nat→Bool,p=fun h=>decide (¬ (l.map kF.num).getD h 0 < t):=⟨_,rfl⟩
 have hbs:Cj (l.map kF.num) t=BH p l.length 0 l.length:=by rw [hp,Cj,bN]
 refine eN [(0,_),(1,_),(2,_)] func204 rfl ntmps204 rfl rfl hG ?_;intro a H;refine kP H (SR fun _ K1=>Ra rfl (ak K1 rfl (SR fun _ K2=>Rm rfl (Rl Nf rfl (ak K2 rfl (SR fun _ K3=>Rm rfl (Ra rfl (ak K3 rfl (SQ fun _ K4=>SB ?_)))))))));clear H K1 K2 K3;intro a H;skip;refine dV (ι:=Nat × Nat × Nat × GH) (Tc:=[(0,_),(1,_),(2,_),(8,_)]) (Lc:=[]) (fun gh=>[(9,vi gh.1),(10,vi gh.2.1)]) (fun gh=>[]) (fun gh=>gh.2.2.2) (fun gh=>gh.1≤gh.2.1∧gh.2.1≤l.length∧gh.2.1 - gh.1≤gh.2.2.1∧BH p gh.2.2.1 gh.1 gh.2.1=Cj (l.map kF.num) t∧(∀ b o,G b=some o→gh.2.2.2 b=some o)) (fun gh=>gh.2.1 - gh.1) ((0,l.length,l.length,G)) (by exact (H).sub ⟨rfl,rfl,rfl,rfl,rfl,rfl,av⟩) ?_ ?_
 ·exact ⟨fQ _,dB _,Nat.sub_le _ _,hbs.symm,fun _ _ h=>h⟩
 clear H;rintro ⟨i,j,f,g⟩ a w hI H;dsimp only at hI H;obtain ⟨hij,hj,hf1,heq,hgm⟩:=hI;have Ig:=hv.mono hgm;dsimp only [lca,aO] at H;refine kP H (SQ fun _ K5=>SR fun _ K6=>Rm rfl (Rm rfl (Rc rfl (Kz K6 (Cd rfl ?_ ?_))))) <;> clear H K6
 ·intro gu a H
  try have mo:=dT gu
  have hlt:i < j:=by omega
  rw [alN hf1 hlt] at heq;obtain ⟨m,hm⟩:∃ m,m=(i+j) / 2:=⟨_,rfl⟩;rw [← hm] at heq
  have hml:m < l.length:=by omega
  obtain ⟨b,o,rfl,hrow⟩:=Vh Ig hml
  have hpm:p m=decide (¬ l[m].num < t):=by rw [hp];dsimp only;rw [getD_map hml]
  rw [hpm] at heq;refine kP H (Kc K5 (SB (SR fun _ K7=>Rm rfl (Rm rfl (Rd rfl ?_)))));clear H K5;intro a H;rw [show ((i:Int)+(j:Int))=((i+j:Nat):Int) by push_cast;rfl] at H;refine Kl ((i+j:Nat):Int) adx nD H wn rfl (alO (by omega) (by omega)) rfl ?_;clear H;intro a H;refine acL _ H wn rfl rfl rfl (by decide) rfl ?_;clear H;intro a H;rw [alM,← hm] at H;refine Kl (m:Int) nD adx H wn rfl (JZ (by omega) (by omega)) rfl ?_;clear H;intro a H;refine kH H (ak K7 rfl (SR fun _ K8=>Rm rfl (Rm rfl (Rm rfl (Ri Nf vT rfl rfl ?_)))));clear H K7;intro a H;refine bK vT (cs:=[_,_,_,_,_,_]) H wn rfl rfl (fun j v hj=>H.hp.aF (hrow j v hj)) rfl ?_;clear H;intro a H;refine kH H (Rm rfl ?_);clear H;intro a H;refine vP H wn rfl rfl (Yl _ _ H.ro l[m] t) rfl ?_;clear H;rintro v30 EC a w rfl Fx H;refine kH H (Rc rfl (Kz K8 (Cd rfl ?_ ?_))) <;> clear H K8
  ·intro h31 a H
   try have p31:=dT h31
   rw [ah (by simpa using Yu.1 p31)] at heq;refine kP H (SC (Rm rfl (Rd rfl (Ra rfl ?_))));clear H;intro a H;refine aH ?_;refine cB ((m+1,j,f - 1,EC)) (by exact (H).sub ⟨rfl,rfl,rfl,rfl,rfl,rfl,av⟩) ?_ ?_
   ·(try dsimp only);exact ⟨by omega,hj,by omega,heq,fun b o h=>Fx b o (hgm b o h)⟩
   first|omega|(dsimp only;omega)
  intro h31 a H
  try have p31:=dF h31
  rw [au (by simpa using fun h=>p31 (Yu.2 h))] at heq;refine kP H (SC (Rm rfl (Ra rfl ?_)));clear H;intro a H;refine aH ?_;refine cB ((i,m,f - 1,EC)) (by exact (H).sub ⟨rfl,rfl,rfl,rfl,rfl,rfl,av⟩) ?_ ?_
  ·(try dsimp only);exact ⟨by omega,by omega,by omega,heq,fun b o h=>Fx b o (hgm b o h)⟩
  first|omega|(dsimp only;omega)
 intro gu a H
 try have mo:=dF gu
 refine dJ ?_;refine K4 _ _ ?_;clear K4;refine aN (fun _ K9=>?_);rw [alL (by omega)] at heq;refine kP H (SC (Rm rfl (Rm rfl (Rm rfl (Rc rfl (Rm rfl (Sp 39 rfl ?_ ?_))))))) <;> clear H
 ·intro iN a H
  try have p39:=dT iN
  have hil:i < l.length:=by omega
  obtain ⟨b,o,rfl,hrow⟩:=Vh Ig hil;refine kH H (YM iN rfl (YM iN rfl (YM iN rfl (YI Nf vT iN rfl rfl ?_))));clear H;intro a H;refine bK vT (cs:=[_,_,_,_,_,_]) H (wg H rfl rfl iN) rfl rfl (fun j v hj=>H.hp.aF (hrow j v hj)) rfl ?_;clear H;intro a H;refine kH H (YM iN rfl ?_);clear H;intro a H;refine vP H (wg H rfl rfl iN) rfl rfl (Yl _ _ H.ro l[i] t) rfl ?_;clear H;rintro v46 QE a w rfl Ea H;refine kH H (YC iN rfl (Pt iN rfl (Ra rfl (aL K9 rfl ?_))));clear H K9;intro a H;refine dK ?_;refine (gY H results204 (.cons (bF H rfl) (.cons (bF H rfl) .nil)) ?_).1;exact H.rt (by rw [ajs heq.symm (by rw [bN];omega),← heq];simp)
 intro iN a H
 try have p39:=dF iN
 refine kH H (aZ iN rfl (aZ iN rfl (aT iN rfl (Pf iN rfl (Ra rfl (aL K9 rfl ?_))))));clear H K9;intro a H;refine dK ?_;refine (gY H results204 (.cons (bF H rfl) (.cons (bF H rfl) .nil)) ?_).1;exact H.rt (by rw [aju heq.symm (by rw [bN];omega),← heq])
end
end Go.Proofs.YthmanofbmnfemaaGreat
