/-
  What the claim stands on, part 3: Prq Prc Fst Nam Pn Lsc Lfl Dv Lpc Scn By Lps Lcl Dst Sty Mk Stz.
-/
import Derived.Test.YthmanofbmnfemaaGreatWab
import Derived.Lib.ConvBytes
import Derived.Laws.MakeOwn
namespace Go.Proofs.YthmanofbmnfemaaGreat
open Go.Proofs.Tryz
section
open Go.RowKit
theorem ahe:∀ args w,(callFunc 203 args).run prog w=.ok (.enter 203 args) w:=enters func203 rfl (by kernel_rfl)
theorem ahf:∀ args w,(callFunc 204 args).run prog w=.ok (.enter 204 args) w:=enters func204 rfl (by kernel_rfl)
theorem agC:∀ args w,(callFunc 141 args).run prog w=.ok (.enter 141 args) w:=enters func141 rfl (by kernel_rfl)
theorem YU:∀ args w,(callFunc 158 args).run prog w=.ok (.enter 158 args) w:=enters func158 rfl (by kernel_rfl)
theorem agK:∀ args w,(callFunc 159 args).run prog w=.ok (.enter 159 args) w:=enters func159 rfl (by kernel_rfl)
theorem aic:dL prog 224 1 1:=⟨by kernel_rfl⟩
theorem ahL:∀ args w,(callFunc 77 args).run prog w=.ok (.enter 77 args) w:=enters func77 rfl (by kernel_rfl)
theorem aie:dL prog 224 2 2:=⟨by kernel_rfl⟩
theorem aif:dL prog 224 3 3:=⟨by kernel_rfl⟩
def kz:kF:=⟨0,0,0,0,0,⟨#[]⟩⟩
def Ik:List Int:=Il.map kF.num
def nW (k:Int):kF × Bool:=if Fp Ik k=true then (Il.getD (Cj Ik k) kz,true) else (kz,false)
theorem find_spec (G:GH) (w0:World) (hG:Hold G w0) (k:Int):Calls prog 158 #[vi k] w0 (bV w0 G fun u G'=>u=.tuple #[.agg (nW k).1.cells.toArray,.bool (nW k).2]):=by
 refine eN [(0,_)] func158 rfl ntmps158 rfl rfl hG ?_;intro a H;refine cO (fun _ K1=>?_);refine dY vT H wn rfl ?_;clear H;intro b2 a w hb2 H;refine kH H (ak K1 rfl (SR fun _ K2=>?_));clear H K1;intro a H;refine s_call ahe H wn rfl (amq _ _ H.ro) rfl ?_;clear H;rintro v7 G7 a w hv7 yh H;obtain ⟨A,c,rfl,hc1,hc2,-⟩:=hv7.slice;rw [bN] at *;refine kH H (ak K2 rfl (SR fun _ K3=>Rm rfl (Rm rfl ?_)));clear H K2;intro a H;refine s_call ahf H wn rfl (aeZ _ _ H.ro Il k _ hv7 (by decide)) rfl ?_;clear H;rintro v11 zT a w rfl H8 H;have hv7:=hv7.mono H8;have hkn:Il.map kF.num=Ik:=rfl;rw [hkn] at H;obtain ⟨n,hn⟩:∃ n,n=Cj Ik k:=⟨_,rfl⟩;obtain ⟨q,hq⟩:∃ q,q=Fp Ik k:=⟨_,rfl⟩;rw [← hn,← hq] at H;refine kH H (Rm rfl ?_);clear H;intro a H;(iterate 2 refine nQ H wn rfl rfl rfl ?_;clear H;intro a H);refine kH H (Ra rfl (ak K3 rfl (SQ fun _ K4=>SR fun _ K5=>Rm rfl (Rn rfl (Kz K5 (Cd rfl ?_ ?_)))))) <;> clear H K3 K5
 ·intro jV a H
  refine cO (fun _ K6=>?_);refine mq acY [_,_,_,_,_,_] H wn rfl rfl rfl rfl ?_;clear H;intro a H;refine bT vT 0 (vs:=[_,_,_,_,_,_]) _ H wn rfl rfl rfl rfl rfl rfl rfl rfl ?_;clear H;intro w H;dsimp only [List.set,setRow] at H;refine kH H (ak K6 rfl ?_);clear H K6;intro a H;refine dK ?_;refine (gY H results158 (.cons (M6 vT (cs:=[_,_,_,_,_,_]) H rfl rfl (H.hp.fG 0 rfl rfl)) (.cons (bF H rfl) .nil)) ?_).1;exact H.rt (by rw [nW,ah (by rw [← hq];simpa using jV)];rfl)
 intro jV a H
 try have qo:=dF jV
 have hlt:n < Il.length:=by have:=ajt (ks:=Ik) (t:=k) (by rw [← hq];simpa using jV);rw [← hn] at this;simpa [Ik] using this
 obtain ⟨b,o,rfl,hrow⟩:=Vh hv7 hlt;refine kP H (Kc K4 (SR fun _ K7=>Rm rfl (Rm rfl (Ri Nf vT rfl rfl ?_))));clear H K4;intro a H;refine bK vT (cs:=[_,_,_,_,_,_]) H wn rfl rfl (fun j v hj=>H.hp.aF (hrow j v hj)) rfl ?_;clear H;intro a H;refine bT vT 0 (vs:=[_,_,_,_,_,_]) _ H wn rfl rfl rfl rfl rfl rfl rfl rfl ?_;clear H;intro w H;dsimp only [List.set,setRow] at H;refine kH H (ak K7 rfl ?_);clear H K7;intro a H;refine dK ?_;refine (gY H results158 (.cons (M6 vT (cs:=[_,_,_,_,_,_]) H rfl rfl (H.hp.fG 0 rfl rfl)) (.cons (bF H rfl) .nil)) ?_).1;exact H.rt (by rw [nW,au (by rw [← hq];simpa using jV),← hn,List.getD_eq_getElem?_getD,fH hlt];rfl)
def eF (e:Int):List Int:=if e=1∨e=4∨e=5∨e=6 then [1] else if e=2 then [1,2] else if e=3 then [3] else if e=7 then [6] else if e=9 then [4] else if e=10 then [5] else []
theorem gy (G:GH) (A:List Int):gP G 1 (A.map fun k=>[li k]) (A.map vi):=by
 refine ⟨A.map fun k=>[vi k],?_,by simp,fun j r cs hr hc=>?_⟩
 ·induction A with
  | nil=>rfl
  | cons a A ih=>simpa using ih
 rw [oQ] at hr hc
 cases h:A[j]? with
 | none=>rw [h] at hr;cases hr
 | some x =>
  rw [h] at hr hc
  cases hr;cases hc
  exact ⟨by simp only [bM];exact ⟨_,_,rfl,by simp [aB,Value.oneCell'],rfl⟩,rfl⟩
theorem aiF (G:GH) (w0:World) (hG:Hold G w0) (e:Int):Calls prog 159 #[vi e] w0 (bV w0 G fun u G'=>aB G' (.sl 1 ((eF e).map fun k=>[li k])) u):=by
  refine eN [(0,_)] func159 rfl ntmps159 rfl rfl hG ?_;intro a H;refine kP H (SR fun _ K1=>ak K1 rfl (SQ fun _ K2=>SR fun _ K3=>Rm rfl (Kz K3 (SB (SQ fun _ K4=>SR fun _ K5=>Rc rfl (ak K5 rfl (Cd rfl ?_ ?_))))))) <;> clear H K1 K3 K5
  · intro h4 a H
    try have p4:=dT h4
    refine kP H (Kc K4 (Ct rfl h4 (SR fun _ K6=>?_)));clear H K4;intro a H;refine jd jN aD [_] [_] H wn rfl rfl rfl rfl rfl (by intro i q h;match i,h with|0,h=>exact h|n+1,h=>simp at h) rfl rfl ?_;clear H;intro b9 a w uL H;refine kH H (ak K6 rfl ?_);clear H K6;intro a H;refine lr H results159 rfl ?_
    first
      | exact H.rt (by rw [eF,ah (by omega),ah (by omega),ah (by omega),ah (by omega),ah (by omega),ah (by omega)];exact aB.lM rfl (by decide))
      | (obtain ⟨Gz,hmz,hbz,H⟩:=H.eD
         first
           | exact H.rt (by rw [eF,au (by omega)];exact aB.fC (n:=1) (cap:=1) hbz rfl (dB _) (show 1≤maxLen by decide) rfl (gy _ [1]))
           | exact H.rt (by rw [eF,ah (by omega),au (by omega)];exact aB.fC (n:=2) (cap:=2) hbz rfl (dB _) (show 2≤maxLen by decide) rfl (gy _ [1,2]))
           | exact H.rt (by rw [eF,ah (by omega),ah (by omega),au (by omega)];exact aB.fC (n:=1) (cap:=1) hbz rfl (dB _) (show 1≤maxLen by decide) rfl (gy _ [3]))
           | exact H.rt (by rw [eF,ah (by omega),ah (by omega),ah (by omega),au (by omega)];exact aB.fC (n:=1) (cap:=1) hbz rfl (dB _) (show 1≤maxLen by decide) rfl (gy _ [6]))
           | exact H.rt (by rw [eF,ah (by omega),ah (by omega),ah (by omega),ah (by omega),au (by omega)];exact aB.fC (n:=1) (cap:=1) hbz rfl (dB _) (show 1≤maxLen by decide) rfl (gy _ [4]))
           | exact H.rt (by rw [eF,ah (by omega),ah (by omega),ah (by omega),ah (by omega),ah (by omega),au (by omega)];exact aB.fC (n:=1) (cap:=1) hbz rfl (dB _) (show 1≤maxLen by decide) rfl (gy _ [5])))
  intro h4 a H
  try have p4:=dF h4
  refine kP H (SR fun _ K7=>Rc rfl (ak K7 rfl (Cd rfl ?_ ?_))) <;> clear H K7
  · intro h4 a H
    try have p4:=dT h4
    refine kP H (Kc K4 (Ct rfl h4 (SR fun _ K8=>?_)));clear H K4;intro a H;refine jd jN aD [_] [_] H wn rfl rfl rfl rfl rfl (by intro i q h;match i,h with|0,h=>exact h|n+1,h=>simp at h) rfl rfl ?_;clear H;intro b9 a w uL H;refine kH H (ak K8 rfl ?_);clear H K8;intro a H;refine lr H results159 rfl ?_
    first
      | exact H.rt (by rw [eF,ah (by omega),ah (by omega),ah (by omega),ah (by omega),ah (by omega),ah (by omega)];exact aB.lM rfl (by decide))
      | (obtain ⟨Gz,hmz,hbz,H⟩:=H.eD
         first
           | exact H.rt (by rw [eF,au (by omega)];exact aB.fC (n:=1) (cap:=1) hbz rfl (dB _) (show 1≤maxLen by decide) rfl (gy _ [1]))
           | exact H.rt (by rw [eF,ah (by omega),au (by omega)];exact aB.fC (n:=2) (cap:=2) hbz rfl (dB _) (show 2≤maxLen by decide) rfl (gy _ [1,2]))
           | exact H.rt (by rw [eF,ah (by omega),ah (by omega),au (by omega)];exact aB.fC (n:=1) (cap:=1) hbz rfl (dB _) (show 1≤maxLen by decide) rfl (gy _ [3]))
           | exact H.rt (by rw [eF,ah (by omega),ah (by omega),ah (by omega),au (by omega)];exact aB.fC (n:=1) (cap:=1) hbz rfl (dB _) (show 1≤maxLen by decide) rfl (gy _ [6]))
           | exact H.rt (by rw [eF,ah (by omega),ah (by omega),ah (by omega),ah (by omega),au (by omega)];exact aB.fC (n:=1) (cap:=1) hbz rfl (dB _) (show 1≤maxLen by decide) rfl (gy _ [4]))
           | exact H.rt (by rw [eF,ah (by omega),ah (by omega),ah (by omega),ah (by omega),ah (by omega),au (by omega)];exact aB.fC (n:=1) (cap:=1) hbz rfl (dB _) (show 1≤maxLen by decide) rfl (gy _ [5])))
  intro h4 a H
  try have p4:=dF h4
  refine kP H (SR fun _ K9=>Rc rfl (ak K9 rfl (Cd rfl ?_ ?_))) <;> clear H K9
  · intro h4 a H
    try have p4:=dT h4
    refine kP H (Kc K4 (Ct rfl h4 (SR fun _ aU=>?_)));clear H K4;intro a H;refine jd jN aD [_] [_] H wn rfl rfl rfl rfl rfl (by intro i q h;match i,h with|0,h=>exact h|n+1,h=>simp at h) rfl rfl ?_;clear H;intro b9 a w uL H;refine kH H (ak aU rfl ?_);clear H aU;intro a H;refine lr H results159 rfl ?_
    first
      | exact H.rt (by rw [eF,ah (by omega),ah (by omega),ah (by omega),ah (by omega),ah (by omega),ah (by omega)];exact aB.lM rfl (by decide))
      | (obtain ⟨Gz,hmz,hbz,H⟩:=H.eD
         first
           | exact H.rt (by rw [eF,au (by omega)];exact aB.fC (n:=1) (cap:=1) hbz rfl (dB _) (show 1≤maxLen by decide) rfl (gy _ [1]))
           | exact H.rt (by rw [eF,ah (by omega),au (by omega)];exact aB.fC (n:=2) (cap:=2) hbz rfl (dB _) (show 2≤maxLen by decide) rfl (gy _ [1,2]))
           | exact H.rt (by rw [eF,ah (by omega),ah (by omega),au (by omega)];exact aB.fC (n:=1) (cap:=1) hbz rfl (dB _) (show 1≤maxLen by decide) rfl (gy _ [3]))
           | exact H.rt (by rw [eF,ah (by omega),ah (by omega),ah (by omega),au (by omega)];exact aB.fC (n:=1) (cap:=1) hbz rfl (dB _) (show 1≤maxLen by decide) rfl (gy _ [6]))
           | exact H.rt (by rw [eF,ah (by omega),ah (by omega),ah (by omega),ah (by omega),au (by omega)];exact aB.fC (n:=1) (cap:=1) hbz rfl (dB _) (show 1≤maxLen by decide) rfl (gy _ [4]))
           | exact H.rt (by rw [eF,ah (by omega),ah (by omega),ah (by omega),ah (by omega),ah (by omega),au (by omega)];exact aB.fC (n:=1) (cap:=1) hbz rfl (dB _) (show 1≤maxLen by decide) rfl (gy _ [5])))
  intro h4 a H
  try have p4:=dF h4
  refine kP H (SC (Rc rfl (aL K4 rfl (Cd rfl ?_ ?_)))) <;> clear H K4
  · intro h4 a H
    try have p4:=dT h4
    refine cO (fun _ bD=>?_);refine jd jN aD [_] [_] H wn rfl rfl rfl rfl rfl (by intro i q h;match i,h with|0,h=>exact h|n+1,h=>simp at h) rfl rfl ?_;clear H;intro b9 a w uL H;refine kH H (ak bD rfl ?_);clear H bD;intro a H;refine lr H results159 rfl ?_
    first
      | exact H.rt (by rw [eF,ah (by omega),ah (by omega),ah (by omega),ah (by omega),ah (by omega),ah (by omega)];exact aB.lM rfl (by decide))
      | (obtain ⟨Gz,hmz,hbz,H⟩:=H.eD
         first
           | exact H.rt (by rw [eF,au (by omega)];exact aB.fC (n:=1) (cap:=1) hbz rfl (dB _) (show 1≤maxLen by decide) rfl (gy _ [1]))
           | exact H.rt (by rw [eF,ah (by omega),au (by omega)];exact aB.fC (n:=2) (cap:=2) hbz rfl (dB _) (show 2≤maxLen by decide) rfl (gy _ [1,2]))
           | exact H.rt (by rw [eF,ah (by omega),ah (by omega),au (by omega)];exact aB.fC (n:=1) (cap:=1) hbz rfl (dB _) (show 1≤maxLen by decide) rfl (gy _ [3]))
           | exact H.rt (by rw [eF,ah (by omega),ah (by omega),ah (by omega),au (by omega)];exact aB.fC (n:=1) (cap:=1) hbz rfl (dB _) (show 1≤maxLen by decide) rfl (gy _ [6]))
           | exact H.rt (by rw [eF,ah (by omega),ah (by omega),ah (by omega),ah (by omega),au (by omega)];exact aB.fC (n:=1) (cap:=1) hbz rfl (dB _) (show 1≤maxLen by decide) rfl (gy _ [4]))
           | exact H.rt (by rw [eF,ah (by omega),ah (by omega),ah (by omega),ah (by omega),ah (by omega),au (by omega)];exact aB.fC (n:=1) (cap:=1) hbz rfl (dB _) (show 1≤maxLen by decide) rfl (gy _ [5])))
  intro h4 a H
  try have p4:=dF h4
  refine kP H (SR fun _ bE=>Rc rfl (ak bE rfl (Cd rfl ?_ ?_))) <;> clear H bE
  · intro h10 a H
    try have sJ:=dT h10
    refine cO (fun _ bQ=>?_);refine jd jN aD [_,_] [_,_] H wn rfl rfl rfl rfl rfl (by intro i q h;match i,h with|0,h=>exact h|1,h=>exact h|n+2,h=>simp at h) rfl rfl ?_;clear H;intro b12 a w D5 H;refine kH H (ak bQ rfl ?_);clear H bQ;intro a H;refine lr H results159 rfl ?_
    first
      | exact H.rt (by rw [eF,ah (by omega),ah (by omega),ah (by omega),ah (by omega),ah (by omega),ah (by omega)];exact aB.lM rfl (by decide))
      | (obtain ⟨Gz,hmz,hbz,H⟩:=H.eD
         first
           | exact H.rt (by rw [eF,au (by omega)];exact aB.fC (n:=1) (cap:=1) hbz rfl (dB _) (show 1≤maxLen by decide) rfl (gy _ [1]))
           | exact H.rt (by rw [eF,ah (by omega),au (by omega)];exact aB.fC (n:=2) (cap:=2) hbz rfl (dB _) (show 2≤maxLen by decide) rfl (gy _ [1,2]))
           | exact H.rt (by rw [eF,ah (by omega),ah (by omega),au (by omega)];exact aB.fC (n:=1) (cap:=1) hbz rfl (dB _) (show 1≤maxLen by decide) rfl (gy _ [3]))
           | exact H.rt (by rw [eF,ah (by omega),ah (by omega),ah (by omega),au (by omega)];exact aB.fC (n:=1) (cap:=1) hbz rfl (dB _) (show 1≤maxLen by decide) rfl (gy _ [6]))
           | exact H.rt (by rw [eF,ah (by omega),ah (by omega),ah (by omega),ah (by omega),au (by omega)];exact aB.fC (n:=1) (cap:=1) hbz rfl (dB _) (show 1≤maxLen by decide) rfl (gy _ [4]))
           | exact H.rt (by rw [eF,ah (by omega),ah (by omega),ah (by omega),ah (by omega),ah (by omega),au (by omega)];exact aB.fC (n:=1) (cap:=1) hbz rfl (dB _) (show 1≤maxLen by decide) rfl (gy _ [5])))
  intro h10 a H
  try have sJ:=dF h10
  refine kP H (SR fun _ bR=>Rc rfl (ak bR rfl (Cd rfl ?_ ?_))) <;> clear H bR
  · intro eO a H
    try have nZ:=dT eO
    refine cO (fun _ bW=>?_);refine jd jN aD [_] [_] H wn rfl rfl rfl rfl rfl (by intro i q h;match i,h with|0,h=>exact h|n+1,h=>simp at h) rfl rfl ?_;clear H;intro b15 a w TW H;refine kH H (ak bW rfl ?_);clear H bW;intro a H;refine lr H results159 rfl ?_
    first
      | exact H.rt (by rw [eF,ah (by omega),ah (by omega),ah (by omega),ah (by omega),ah (by omega),ah (by omega)];exact aB.lM rfl (by decide))
      | (obtain ⟨Gz,hmz,hbz,H⟩:=H.eD
         first
           | exact H.rt (by rw [eF,au (by omega)];exact aB.fC (n:=1) (cap:=1) hbz rfl (dB _) (show 1≤maxLen by decide) rfl (gy _ [1]))
           | exact H.rt (by rw [eF,ah (by omega),au (by omega)];exact aB.fC (n:=2) (cap:=2) hbz rfl (dB _) (show 2≤maxLen by decide) rfl (gy _ [1,2]))
           | exact H.rt (by rw [eF,ah (by omega),ah (by omega),au (by omega)];exact aB.fC (n:=1) (cap:=1) hbz rfl (dB _) (show 1≤maxLen by decide) rfl (gy _ [3]))
           | exact H.rt (by rw [eF,ah (by omega),ah (by omega),ah (by omega),au (by omega)];exact aB.fC (n:=1) (cap:=1) hbz rfl (dB _) (show 1≤maxLen by decide) rfl (gy _ [6]))
           | exact H.rt (by rw [eF,ah (by omega),ah (by omega),ah (by omega),ah (by omega),au (by omega)];exact aB.fC (n:=1) (cap:=1) hbz rfl (dB _) (show 1≤maxLen by decide) rfl (gy _ [4]))
           | exact H.rt (by rw [eF,ah (by omega),ah (by omega),ah (by omega),ah (by omega),ah (by omega),au (by omega)];exact aB.fC (n:=1) (cap:=1) hbz rfl (dB _) (show 1≤maxLen by decide) rfl (gy _ [5])))
  intro eO a H
  try have nZ:=dF eO
  refine kP H (SR fun _ cK=>Rc rfl (ak cK rfl (Cd rfl ?_ ?_))) <;> clear H cK
  · intro h16 a H
    try have p16:=dT h16
    refine cO (fun _ bY=>?_);refine jd jN aD [_] [_] H wn rfl rfl rfl rfl rfl (by intro i q h;match i,h with|0,h=>exact h|n+1,h=>simp at h) rfl rfl ?_;clear H;intro b18 a w ajz H;refine kH H (ak bY rfl ?_);clear H bY;intro a H;refine lr H results159 rfl ?_
    first
      | exact H.rt (by rw [eF,ah (by omega),ah (by omega),ah (by omega),ah (by omega),ah (by omega),ah (by omega)];exact aB.lM rfl (by decide))
      | (obtain ⟨Gz,hmz,hbz,H⟩:=H.eD
         first
           | exact H.rt (by rw [eF,au (by omega)];exact aB.fC (n:=1) (cap:=1) hbz rfl (dB _) (show 1≤maxLen by decide) rfl (gy _ [1]))
           | exact H.rt (by rw [eF,ah (by omega),au (by omega)];exact aB.fC (n:=2) (cap:=2) hbz rfl (dB _) (show 2≤maxLen by decide) rfl (gy _ [1,2]))
           | exact H.rt (by rw [eF,ah (by omega),ah (by omega),au (by omega)];exact aB.fC (n:=1) (cap:=1) hbz rfl (dB _) (show 1≤maxLen by decide) rfl (gy _ [3]))
           | exact H.rt (by rw [eF,ah (by omega),ah (by omega),ah (by omega),au (by omega)];exact aB.fC (n:=1) (cap:=1) hbz rfl (dB _) (show 1≤maxLen by decide) rfl (gy _ [6]))
           | exact H.rt (by rw [eF,ah (by omega),ah (by omega),ah (by omega),ah (by omega),au (by omega)];exact aB.fC (n:=1) (cap:=1) hbz rfl (dB _) (show 1≤maxLen by decide) rfl (gy _ [4]))
           | exact H.rt (by rw [eF,ah (by omega),ah (by omega),ah (by omega),ah (by omega),ah (by omega),au (by omega)];exact aB.fC (n:=1) (cap:=1) hbz rfl (dB _) (show 1≤maxLen by decide) rfl (gy _ [5])))
  intro h16 a H
  try have p16:=dF h16
  refine kP H (SR fun _ dG=>Rc rfl (ak dG rfl (Cd rfl ?_ ?_))) <;> clear H dG
  · intro h19 a H
    try have zG:=dT h19
    refine cO (fun _ dN=>?_);refine jd jN aD [_] [_] H wn rfl rfl rfl rfl rfl (by intro i q h;match i,h with|0,h=>exact h|n+1,h=>simp at h) rfl rfl ?_;clear H;intro b21 a w arj H;refine kH H (ak dN rfl ?_);clear H dN;intro a H;refine lr H results159 rfl ?_
    first
      | exact H.rt (by rw [eF,ah (by omega),ah (by omega),ah (by omega),ah (by omega),ah (by omega),ah (by omega)];exact aB.lM rfl (by decide))
      | (obtain ⟨Gz,hmz,hbz,H⟩:=H.eD
         first
           | exact H.rt (by rw [eF,au (by omega)];exact aB.fC (n:=1) (cap:=1) hbz rfl (dB _) (show 1≤maxLen by decide) rfl (gy _ [1]))
           | exact H.rt (by rw [eF,ah (by omega),au (by omega)];exact aB.fC (n:=2) (cap:=2) hbz rfl (dB _) (show 2≤maxLen by decide) rfl (gy _ [1,2]))
           | exact H.rt (by rw [eF,ah (by omega),ah (by omega),au (by omega)];exact aB.fC (n:=1) (cap:=1) hbz rfl (dB _) (show 1≤maxLen by decide) rfl (gy _ [3]))
           | exact H.rt (by rw [eF,ah (by omega),ah (by omega),ah (by omega),au (by omega)];exact aB.fC (n:=1) (cap:=1) hbz rfl (dB _) (show 1≤maxLen by decide) rfl (gy _ [6]))
           | exact H.rt (by rw [eF,ah (by omega),ah (by omega),ah (by omega),ah (by omega),au (by omega)];exact aB.fC (n:=1) (cap:=1) hbz rfl (dB _) (show 1≤maxLen by decide) rfl (gy _ [4]))
           | exact H.rt (by rw [eF,ah (by omega),ah (by omega),ah (by omega),ah (by omega),ah (by omega),au (by omega)];exact aB.fC (n:=1) (cap:=1) hbz rfl (dB _) (show 1≤maxLen by decide) rfl (gy _ [5])))
  intro h19 a H
  try have zG:=dF h19
  refine kP H (SR fun _ dH=>Rc rfl (ak dH rfl (Cd rfl ?_ ?_))) <;> clear H dH
  · intro h22 a H
    try have jv:=dT h22
    refine cO (fun _ dP=>?_);refine jd jN aD [_] [_] H wn rfl rfl rfl rfl rfl (by intro i q h;match i,h with|0,h=>exact h|n+1,h=>simp at h) rfl rfl ?_;clear H;intro b24 a w arl H;refine kH H (ak dP rfl ?_);clear H dP;intro a H;refine lr H results159 rfl ?_
    first
      | exact H.rt (by rw [eF,ah (by omega),ah (by omega),ah (by omega),ah (by omega),ah (by omega),ah (by omega)];exact aB.lM rfl (by decide))
      | (obtain ⟨Gz,hmz,hbz,H⟩:=H.eD
         first
           | exact H.rt (by rw [eF,au (by omega)];exact aB.fC (n:=1) (cap:=1) hbz rfl (dB _) (show 1≤maxLen by decide) rfl (gy _ [1]))
           | exact H.rt (by rw [eF,ah (by omega),au (by omega)];exact aB.fC (n:=2) (cap:=2) hbz rfl (dB _) (show 2≤maxLen by decide) rfl (gy _ [1,2]))
           | exact H.rt (by rw [eF,ah (by omega),ah (by omega),au (by omega)];exact aB.fC (n:=1) (cap:=1) hbz rfl (dB _) (show 1≤maxLen by decide) rfl (gy _ [3]))
           | exact H.rt (by rw [eF,ah (by omega),ah (by omega),ah (by omega),au (by omega)];exact aB.fC (n:=1) (cap:=1) hbz rfl (dB _) (show 1≤maxLen by decide) rfl (gy _ [6]))
           | exact H.rt (by rw [eF,ah (by omega),ah (by omega),ah (by omega),ah (by omega),au (by omega)];exact aB.fC (n:=1) (cap:=1) hbz rfl (dB _) (show 1≤maxLen by decide) rfl (gy _ [4]))
           | exact H.rt (by rw [eF,ah (by omega),ah (by omega),ah (by omega),ah (by omega),ah (by omega),au (by omega)];exact aB.fC (n:=1) (cap:=1) hbz rfl (dB _) (show 1≤maxLen by decide) rfl (gy _ [5])))
  intro h22 a H
  try have jv:=dF h22
  refine kP H (Kc K2 (SR fun _ eT=>ak eT rfl ?_));clear H K2 eT;intro a H;refine lr H results159 rfl ?_
  first
    | exact H.rt (by rw [eF,ah (by omega),ah (by omega),ah (by omega),ah (by omega),ah (by omega),ah (by omega)];exact aB.lM rfl (by decide))
    | (obtain ⟨Gz,hmz,hbz,H⟩:=H.eD
       first
         | exact H.rt (by rw [eF,au (by omega)];exact aB.fC (n:=1) (cap:=1) hbz rfl (dB _) (show 1≤maxLen by decide) rfl (gy _ [1]))
         | exact H.rt (by rw [eF,ah (by omega),au (by omega)];exact aB.fC (n:=2) (cap:=2) hbz rfl (dB _) (show 2≤maxLen by decide) rfl (gy _ [1,2]))
         | exact H.rt (by rw [eF,ah (by omega),ah (by omega),au (by omega)];exact aB.fC (n:=1) (cap:=1) hbz rfl (dB _) (show 1≤maxLen by decide) rfl (gy _ [3]))
         | exact H.rt (by rw [eF,ah (by omega),ah (by omega),ah (by omega),au (by omega)];exact aB.fC (n:=1) (cap:=1) hbz rfl (dB _) (show 1≤maxLen by decide) rfl (gy _ [6]))
         | exact H.rt (by rw [eF,ah (by omega),ah (by omega),ah (by omega),ah (by omega),au (by omega)];exact aB.fC (n:=1) (cap:=1) hbz rfl (dB _) (show 1≤maxLen by decide) rfl (gy _ [4]))
         | exact H.rt (by rw [eF,ah (by omega),ah (by omega),ah (by omega),ah (by omega),ah (by omega),au (by omega)];exact aB.fC (n:=1) (cap:=1) hbz rfl (dB _) (show 1≤maxLen by decide) rfl (gy _ [5])))
theorem amg {G:GH} {l:List Int} {A:Option Addr} {n c k:Nat} (hv:aB G (.sl 1 (l.map fun k=>[li k])) (.slice A n c)) (hk:k < l.length):∃ b o,A=some ⟨b,o,none⟩∧aF G b (o+k*1)=some (vi l[k]):=by
 obtain ⟨A',c',he,_,_,hg⟩:=hv.slice
 injection he with e1 e2 e3
 subst e1;obtain ⟨b,o,cs,h1,h2,h3,h4⟩:=hg k [li l[k]] (by simp [hk])
 simp only [bM,aB] at h4
 obtain ⟨v1,_,rfl,⟨rfl,-⟩,rfl⟩:=h4;exact ⟨b,o,h1,h3 0 _ rfl⟩
theorem ama (G:GH) (w0:World) (hG:Hold G w0) (l:List Int) (t:Int) (v:aj) (hv:aB G (.sl 1 (l.map fun k=>[li k])) v) :
  Calls prog 141 #[v,vi t] w0 (bV w0 G fun u G'=>u=vi (qN (l.findIdx? fun x=>decide (t=x)))):=by
 obtain ⟨A,c,rfl,hc1,hc2,-⟩:=hv.slice;have hml:maxLen=9223372036854775807:=rfl;rw [bN] at *;refine eN [(0,_),(1,_)] func141 rfl ntmps141 rfl rfl hG ?_;intro a H;refine kP H (SR fun _ K1=>ak K1 rfl (SQ fun _ K2=>SR fun _ K3=>Rm rfl (Rl jN rfl (Rm rfl (Kz K3 (SB ?_))))));clear H K1 K3;intro a H;skip;refine dV (ι:=Nat) (Tc:=[(0,_),(1,_),(7,_)]) (Lc:=[]) (fun gh=>[(8,vi gh)]) (fun gh=>[]) (fun gh=>G) (fun gh=>gh≤l.length∧(l.take gh).findIdx? (fun x=>decide (t=x))=none) (fun gh=>l.length - gh) (0) (by exact (H).sub ⟨rfl,rfl,rfl,rfl,av⟩) ?_ ?_
 ·exact ⟨fQ _,rfl⟩
 clear H;intro k a w hI H;obtain ⟨hk,hno⟩:=hI;dsimp only [lca,aO] at H;refine kP H (SR fun _ K4=>Rc rfl (Kz K4 (SQ fun _ K5=>Cd rfl ?_ ?_))) <;> clear H K4
 ·intro h9 a H
  try have p9:=dT h9
  have hk2:k < l.length:=by omega
  obtain ⟨b,o,rfl,hrow⟩:=amg hv hk2;refine kP H (Kc K5 (SQ fun _ K6=>SB (SR fun _ K7=>Rm rfl (ak K7 rfl (SR fun _ K8=>Rm rfl (Rm rfl (Rm rfl (Ri jN aD rfl rfl (Rg aD rfl (by assumption) ?_)))))))));clear H K5 K7;intro a H;refine kH H (Rc rfl (Kz K8 (Cd rfl ?_ ?_))) <;> clear H K8
  ·intro h16 a H
   try have p16:=dT h16
   exact kP H (SR fun _ K9=>Rm rfl (ak K9 rfl (LR results141 rfl fun H=>H.rt (by rw [zy hk2 hno (by simpa using p16)];rfl))))
  intro h16 a H
  try have p16:=dF h16
  refine kP H (Kc K6 (SC (Rd rfl (Rm rfl ?_))));clear H K6;intro a H;refine aH ?_;refine cB ((k+1)) (by exact (H).sub ⟨rfl,rfl,rfl,rfl,av⟩) ?_ ?_
  ·exact ⟨by omega,Ih hk2 hno (by simpa using p16)⟩
  first|omega|(dsimp only;omega)
 intro h9 a H
 try have p9:=dF h9
 refine dJ ?_;refine K2 _ _ ?_;clear K2;exact kP H (SR fun _ aU=>ak aU rfl (LR results141 rfl fun H=>H.rt (by rw [show l.take k=l from mF (by omega)] at hno;rw [hno];rfl)))
theorem afX (G:GH) (w0:World) (hG:Hold G w0) (l:List Int) (t:Int) (v:aj) (hv:aB G (.sl 1 (l.map fun k=>[li k])) v) :
  Calls prog 77 #[v,vi t] w0 (bV w0 G fun u G'=>u=.bool (decide (t∈l))):=by
 obtain ⟨A,c,rfl,hc1,hc2,-⟩:=hv.slice;rw [bN] at *;refine eN [(0,_),(1,_)] func77 rfl ntmps77 rfl rfl hG ?_;intro a H;refine kP H (SR fun _ K1=>ak K1 rfl (SR fun _ K2=>Rm rfl (Rm rfl ?_)));clear H K1;intro a H;refine s_call agC H wn rfl (ama _ _ H.ro l t _ hv) rfl ?_;clear H;rintro v7 G7 a w rfl yh H;refine kH H (Rc rfl (ak K2 rfl ?_));clear H K2;intro a H;refine lr H results77 rfl ?_
 exact H.rt (by
  congr 1
  cases h:l.findIdx? (fun x=>decide (t=x)) with
  | none =>
   rw [List.findIdx?_eq_none_iff] at h;have:t∉l:=fun hm=>absurd (h t hm) (by simp)
   simp [qN,this]
  | some i =>
   obtain ⟨hi,he,-⟩:=List.findIdx?_eq_some_iff_getElem.1 h
   have:t∈l:=by rw [oU he];exact jD _
   simp [qN,this])
def Bj (e k:Int):Bool:=(nW k).2 && decide ((nW k).1.Cv∈eF e)
theorem Sv (G:GH) (w0:World) (hG:Hold G w0) (e k:Int):Calls prog 98 #[vi e,vi k] w0 (bV w0 G fun u G'=>u=.bool (Bj e k)):=by
 refine eN [(0,_),(1,_)] func98 rfl ntmps98 rfl rfl hG ?_;intro a H;refine kP H (SR fun _ K1=>ak K1 rfl (SR fun _ K2=>Rm rfl ?_));clear H K1;intro a H;refine s_call YU H wn rfl (find_spec _ _ H.ro k) rfl ?_;clear H;rintro v9 G9 a w rfl JL H;dsimp only [kF.cells] at H;refine kH H (Rm rfl ?_);clear H;intro a H;(iterate 2 refine nQ H wn rfl rfl rfl ?_;clear H;intro a H);refine dY vT H wn rfl ?_;clear H;intro b5 a w hb5 H;refine bT vT 0 (vs:=[_,_,_,_,_,_]) _ H wn rfl rfl rfl rfl rfl rfl rfl rfl ?_;clear H;intro w H;dsimp only [List.set,setRow] at H;refine kH H (ak K2 rfl (SQ fun _ K3=>?_));clear H K2;intro a H
 by_cases c0:(nW k).2=true
 ·skip
  have Ec:∀ (fU:Nat) (v:aj) (G G':GH),(∀ k o,G k=some o→G' k=some o)→(fun (fU:Nat) (v:aj) (G:GH)=>match fU with|0=>v=.bool (nW k).2|1=>v=.bool (decide ((nW k).2=true))|2=>v=vi e|3=>(nW k).2=true→aB G (.sl 1 ((eF e).map fun k=>[li k])) v|4=>v=(aP b5 1)|5=>v=vi (nW k).1.Cv|6=>v=.bool (decide ((nW k).1.Cv∈eF e))|7=>v=.bool (Bj e k)|_=>True) fU v G→(fun (fU:Nat) (v:aj) (G:GH)=>match fU with|0=>v=.bool (nW k).2|1=>v=.bool (decide ((nW k).2=true))|2=>v=vi e|3=>(nW k).2=true→aB G (.sl 1 ((eF e).map fun k=>[li k])) v|4=>v=(aP b5 1)|5=>v=vi (nW k).1.Cv|6=>v=.bool (decide ((nW k).1.Cv∈eF e))|7=>v=.bool (Bj e k)|_=>True) fU v G':=by
   intro fU v G G' hm h
   match fU,h with
   | 0,h=>exact h
   | 1,h=>exact h
   | 2,h=>exact h
   | 3,h=>exact fun hf=>(h hf).mono hm
   | 4,h=>exact h
   | 5,h=>exact h
   | 6,h=>exact h
   | 7,h=>exact h
   | 8,h=>exact trivial
   | _+9,h=>exact trivial
  refine Ll (hmx) [[],[0],[0,1],[0,1,2],[0,1],[0,1,4],(ra 0 6),(ra 0 7),(ra 0 8)] [8] (by kernel_rfl) (by kernel_rfl) (fun (fU:Nat) (v:aj) (G:GH)=>match fU with|0=>v=.bool (nW k).2|1=>v=.bool (decide ((nW k).2=true))|2=>v=vi e|3=>(nW k).2=true→aB G (.sl 1 ((eF e).map fun k=>[li k])) v|4=>v=(aP b5 1)|5=>v=vi (nW k).1.Cv|6=>v=.bool (decide ((nW k).1.Cv∈eF e))|7=>v=.bool (Bj e k)|_=>True) Ec H ?_ ?_
  ·clear H;refine aI ?_ ?_ ?_ ?_ (aI ?_ ?_ ?_ ?_ (bG (cZ rfl) dQ))
   ·refine fO [] rfl trivial (by kernel_rfl) Ec rfl rfl ?_;intro dM a w G1 hG HT H fin;exact kH H (Rm rfl fun _ H=>fin H iJ rfl)
   ·refine fO [(0,12,_)] rfl ⟨fun _ _ h=>h,av⟩ (by kernel_rfl) Ec rfl rfl ?_;intro dM a w G1 hG HT H fin;refine kH H (Rm rfl ?_);clear H;intro a H;exact fin H iJ (by simp)
   ·refine fO [(1,13,_)] rfl ⟨fun _ _ h=>h,av⟩ (by kernel_rfl) Ec rfl rfl ?_;intro dM a w G1 hG HT H fin;exact kH H (YM (aG c0) rfl fun _ H=>fin H iJ rfl)
   ·refine fO [(2,14,_),(1,13,_)] rfl ⟨fun _ _ h=>h,fun _ _ h=>h,av⟩ (by kernel_rfl) Ec rfl rfl ?_;intro dM a w G1 hG HT H fin;refine s_call agK H (wg H rfl rfl (aG c0)) rfl (aiF _ _ H.ro e) rfl ?_;clear H;rintro v15 EB a w FC Hq H;exact fin H Hq (by first|exact fun _=>FC|rfl)
   ·refine fO [(1,13,_)] rfl ⟨fun _ _ h=>h,av⟩ (by kernel_rfl) Ec rfl rfl ?_;intro dM a w G1 hG HT H fin;exact kH H (YF aic (aG c0) rfl fun _ H=>fin H iJ rfl)
   ·refine fO [(4,16,_),(1,13,_)] rfl ⟨fun _ _ h=>h,fun _ _ h=>h,av⟩ (by kernel_rfl) Ec rfl rfl ?_;intro dM a w G1 hG HT H fin;exact kH H (YO aD 0 (aG c0) rfl fun _ H=>fin H iJ rfl)
   ·intro dM a w G1 _ dO hc hG HT hv;have H:=HT;clear dO;obtain ⟨u15,aly,FC⟩:=hv 3 15 (hc 3 (by decide)) rfl;(try dsimp only at FC);have H:=H.pX aly;have H:=H.bC (hv 5 17 (hc 5 (by decide)) rfl) rfl;have H:=H.bC (hv 1 13 (hc 1 (by decide)) rfl) rfl;have Hb:=H.full;have H:=Hb;clear hc;refine s_call ahL H (wg H rfl rfl (aG c0)) rfl (afX _ _ H.ro _ _ _ (FC c0)) rfl ?_;clear H;rintro v18 Nr a w rfl aiM H;refine aH ⟨rfl,?_⟩;exact nK (by kernel_rfl) Ec rfl rfl HT Hb hG hv aiM (rfl) H
   refine fO [(1,13,_),(6,18,_)] rfl ⟨fun _ _ h=>h,fun _ _ h=>h,av⟩ (by kernel_rfl) Ec rfl rfl ?_;intro dM a w G1 hG HT H fin;refine kH H (Pt (aG c0) rfl ?_);clear H;intro a H;exact fin H iJ (by unfold Bj;simp_all)
  clear H;intro a w G Hr H hv;have H:=H.bC (hv 7 19 rfl rfl) rfl;clear hv;refine kH H (Ra rfl ?_);clear H;intro a H;refine aH ⟨rfl,?_⟩;refine K3 _ _ ?_;clear K3;refine lr H results98 rfl ?_;exact H.rt rfl
 skip;refine dI hmx [[],[0],[0,1],[0,1,2],[0,1],[0,1,4],(ra 0 6),(ra 0 7),(ra 0 8)] [8] (by kernel_rfl) [_,.bool (decide ((nW k).2=true)),undef,undef,undef,undef,undef,.bool (Bj e k)] H (aI (Z0 rfl (Rm rfl)) ?_ (aV (j:=1) (by kernel_rfl) (fun _ _ _ _ _ h=>h) rfl rfl rfl rfl rfl (fun _ _ h=>aW h (aM (aQ c0))) rfl (fun _=>rfl)) ?_ (aI (aV (j:=1) (by kernel_rfl) (fun _ _ _ _ _ h=>h) rfl rfl rfl rfl rfl (fun _ _ h=>aW h (aM (aQ c0))) rfl (fun _=>rfl)) (aV (j:=1) (by kernel_rfl) (fun _ _ _ _ _ h=>h) rfl rfl rfl rfl rfl (fun _ _ h=>aW h (aM (aQ c0))) rfl (fun _=>rfl)) (aV (j:=1) (by kernel_rfl) (fun _ _ _ _ _ h=>h) rfl rfl rfl rfl rfl (fun _ _ h=>aW h (aM (aQ c0))) rfl (fun _=>rfl)) ?_ (bG (cZ rfl) dQ))) ?_
 ·refine fq 0 12 rfl rfl fun _ a w G1 hG HT H fin=>?_;refine kH H (Rm rfl ?_);clear H;intro a H;exact fin H iJ (by show _=_;simp)
 ·intro dM a w G1 _ dO hc hG HT hv;have H:=HT;clear dO;have H:=H.bC (hv 2 14 (hc 2 (by decide)) rfl) rfl;have H:=H.bC (hv 1 13 (hc 1 (by decide)) rfl) rfl;have Hb:=H.full;have H:=Hb;clear hc;refine kH H (Ks (aQ c0) rfl ?_);clear H;intro a H;refine aH ⟨rfl,?_⟩;exact nK (by kernel_rfl) (fun _ _ _ _ _ h=>h) rfl rfl HT Hb hG hv (fun _ _ h=>h) (by first|exact fun _=>FC|rfl) H
 ·refine fu 1 13 6 18 rfl rfl fun _ a w G1 hG HT H fin=>?_;refine kH H (Pf (aQ c0) rfl ?_);clear H;intro a H;exact fin H iJ (by show _=_;unfold Bj;simp_all)
 clear H;intro a w G Hr H hv;have H:=H.bC (hv 7 19 rfl rfl) rfl;clear hv;refine kH H (Ra rfl ?_);clear H;intro a H;refine aH ⟨rfl,?_⟩;refine K3 _ _ ?_;clear K3;refine lr H results98 rfl ?_;exact H.rt rfl
def tC (k v:Int):Int:=if (nW k).2=false then 4 else if v < (nW k).1.low∨(nW k).1.high < v then 5 else 0
theorem GN (G:GH) (w0:World) (hG:Hold G w0) (k x:Int):Calls prog 99 #[vi k,vi x] w0 (bV w0 G fun u G'=>u=vi (tC k x)):=by
 refine eN [(0,_),(1,_)] func99 rfl ntmps99 rfl rfl hG ?_;intro a H;refine kP H (SR fun _ K1=>ak K1 rfl (SR fun _ K2=>Rm rfl ?_));clear H K1;intro a H;refine s_call YU H wn rfl (find_spec _ _ H.ro k) rfl ?_;clear H;rintro v9 G9 a w rfl JL H;dsimp only [kF.cells] at H;refine kH H (Rm rfl ?_);clear H;intro a H;(iterate 2 refine nQ H wn rfl rfl rfl ?_;clear H;intro a H);refine dY vT H wn rfl ?_;clear H;intro b5 a w hb5 H;refine bT vT 0 (vs:=[_,_,_,_,_,_]) _ H wn rfl rfl rfl rfl rfl rfl rfl rfl ?_;clear H;intro w H;dsimp only [List.set,setRow] at H;refine kH H (ak K2 rfl (SQ fun _ K3=>SB (SR fun _ K4=>Rm rfl (Rn rfl (ak K4 rfl (Cd rfl ?_ ?_)))))) <;> clear H K2 K4
 ·intro h12 a H
  try have qm:=dT h12
  exact kP H (SR fun _ K5=>ak K5 rfl (LR results99 rfl fun H=>H.rt (by unfold tC;simp_all)))
 intro h12 a H
 try have qm:=dF h12
 refine kP H (SR fun _ K6=>Rm rfl (aR aie aD 0 rfl rfl (Rc rfl (Rm rfl (Sp 20 rfl ?_ ?_))))) <;> clear H
 ·intro h20 a H
  try have qP:=dT h20
  exact kH H (aT h20 rfl (aT h20 rfl (Pt h20 rfl (ak K6 rfl (Ct rfl rfl (SR fun _ K7=>ak K7 rfl (LR results99 rfl fun H=>H.rt (by unfold tC;simp_all))))))))
 intro h20 a H
 try have qP:=dF h20
 refine kH H (YM h20 rfl (YF aif h20 rfl (YO aD 0 h20 rfl (YC h20 rfl (Pf h20 rfl (ak K6 rfl (Cd rfl ?_ ?_))))))) <;> clear H K6
 ·intro jV a H
  try have qo:=dT jV
  exact kP H (SR fun _ K8=>ak K8 rfl (LR results99 rfl fun H=>H.rt (by unfold tC;simp_all)))
 intro jV a H
 try have qo:=dF jV
 exact kP H (Kc K3 (SR fun _ K9=>ak K9 rfl (LR results99 rfl fun H=>H.rt (by unfold tC;simp_all))))
end
section
open Go.RowKit
theorem xV:dL prog 171 0 0:=⟨by kernel_rfl⟩
theorem R8:∀ args w,(callFunc 98 args).run prog w=.ok (.enter 98 args) w:=enters func98 rfl (by kernel_rfl)
theorem Si:dL prog 171 1 1:=⟨by kernel_rfl⟩
theorem GR:∀ args w,(callFunc 99 args).run prog w=.ok (.enter 99 args) w:=enters func99 rfl (by kernel_rfl)
def J6 (q:Option Int) (k:Int):Bool:=match q with|some j=>decide (k < j)|none=>false
def Dx (e:Int):Option Int→List jX→Int
 | _,[]=>0
 | q,p :: r=>if Bj e p.key=false then 4 else if q=some p.key then 7 else if J6 q p.key=true then 6 else if tC p.key p.value=0 then Dx e (some p.key) r else tC p.key p.value
def BL (l:List jX) (k:Nat):Option Int:=if k=0 then none else l[k - 1]?.map jX.key
def iM (e:Int) (l:List jX):Int:=if e < 1∨10 < e then 3 else Dx e none l
theorem afL {e:Int} {l:List jX} {k:Nat} (h:k < l.length):Dx e (BL l k) (l.drop k)=if Bj e l[k].key=false then 4 else if BL l k=some l[k].key then 7 else if J6 (BL l k) l[k].key=true then 6 else if tC l[k].key l[k].value=0 then Dx e (BL l (k+1)) (l.drop (k+1)) else tC l[k].key l[k].value:=by
 rw [jw h,Dx]
 have:BL l (k+1)=some l[k].key:=by rw [BL,ah (by omega),Nat.add_sub_cancel,fH h];rfl
 rw [this]
theorem P5 {l:List jX} {k:Nat} (h:k=0):BL l k=none:=au h
theorem VK (G:GH) (w0:World) (hG:Hold G w0) (e:Int) (l:List jX) (v:aj) (hv:aB G (.sl 2 (l.map jX.dat)) v) :
  Calls prog 95 #[vi e,v] w0 (bV w0 G fun u G'=>u=vi (iM e l)):=by
 obtain ⟨A,c,rfl,hc1,hc2,-⟩:=hv.slice;have hml:maxLen=9223372036854775807:=rfl;rw [bN] at *;refine eN [(0,_),(1,_)] func95 rfl ntmps95 rfl rfl hG ?_;intro a H;refine kP H (SR fun _ K1=>ak K1 rfl (SQ fun _ K2=>SR fun _ K3=>Rm rfl (Rc rfl (Rm rfl (Sp 10 rfl ?_ ?_))))) <;> clear H K1
 ·intro h10 a H
  try have sJ:=dT h10
  refine kH H (aT h10 rfl (Pt h10 rfl (Kz K3 (Ct rfl rfl (SR fun _ K4=>ak K4 rfl ?_)))));clear H K3 K4;intro a H;refine lr H results95 rfl ?_
  first
   | exact H.rt (ay vi (by rw [ah (by simpa using p61)] at heq;rw [iM,ah (by omega)];exact heq))
   | exact H.rt (ay vi (by rw [au (by simpa using h21)] at heq;rw [iM,ah (by omega)];exact heq))
   | exact H.rt (ay vi (by rw [iM,ah (by omega)];exact heq))
   | exact H.rt (ay vi (by rw [iM,ah (by omega),← heq,show l.drop k=[] from eU (by omega)];rfl))
   | exact H.rt (ay vi (by rw [iM,au (by omega)]))
 intro h10 a H
 try have sJ:=dF h10
 refine kH H (YM h10 rfl (YC h10 rfl (Pf h10 rfl (Kz K3 (Cd rfl ?_ ?_))))) <;> clear H K3
 ·intro eO a H
  try have nZ:=dT eO
  refine kP H (SR fun _ K5=>ak K5 rfl ?_);clear H K5;intro a H;refine lr H results95 rfl ?_
  first
   | exact H.rt (ay vi (by rw [ah (by simpa using p61)] at heq;rw [iM,ah (by omega)];exact heq))
   | exact H.rt (ay vi (by rw [au (by simpa using h21)] at heq;rw [iM,ah (by omega)];exact heq))
   | exact H.rt (ay vi (by rw [iM,ah (by omega)];exact heq))
   | exact H.rt (ay vi (by rw [iM,ah (by omega),← heq,show l.drop k=[] from eU (by omega)];rfl))
   | exact H.rt (ay vi (by rw [iM,au (by omega)]))
 intro eO a H
 try have nZ:=dF eO
 refine kP H (Kc K2 (SQ fun _ K6=>SR fun _ K7=>Rm rfl (Rl tV rfl (Rm rfl (Kz K7 (SB ?_))))));clear H K2 K7;intro a H;skip;refine dV (ι:=Nat × GH) (Tc:=[(0,_),(1,_),(14,_),(15,_)]) (Lc:=[]) (fun gh=>[(16,vi gh.1)]) (fun gh=>[]) (fun gh=>gh.2) (fun gh=>gh.1≤l.length∧Dx e (BL l gh.1) (l.drop gh.1)=Dx e none l∧(∀ b o,G b=some o→gh.2 b=some o)) (fun gh=>l.length - gh.1) ((0,G)) (by exact (H).sub ⟨rfl,rfl,rfl,rfl,rfl,av⟩) ?_ ?_
 ·exact ⟨fQ _,rfl,fun _ _ h=>h⟩
 clear H;rintro ⟨k,g⟩ a w hI H;dsimp only at hI H;obtain ⟨hk,heq,hgm⟩:=hI;dsimp only [lca,aO] at H;refine kP H (SR fun _ K8=>Rc rfl (Kz K8 (SQ fun _ K9=>Cd rfl ?_ ?_))) <;> clear H K8
 ·intro gu a H
  try have mo:=dT gu
  have hk2:k < l.length:=by omega
  have Ig:=hv.mono hgm;obtain ⟨b,o,rfl,hrow⟩:=M4 Ig hk2
  obtain ⟨pk,hpk⟩:∃ pk,0 < k→aF g b (o+(k - 1)*2+0)=some (vi pk)∧BL l k=some pk:=by
   by_cases h0:0 < k
   ·obtain ⟨b',o',he,hr'⟩:=M4 Ig (show k - 1 < l.length by omega)
    injection he with he
    injection he with e1 e2 e3
    subst e1;subst e2;exact ⟨_,fun _=>⟨hr' 0 _ rfl,by rw [BL,ah (by omega),fH (by omega)];rfl⟩⟩
   exact ⟨0,fun h=>absurd h h0⟩
  rw [afL hk2] at heq;have arI:=heq;refine kP H (Kc K9 (SQ fun _ aU=>SB (SR fun _ bD=>Rm rfl (Ri tV tT rfl rfl ?_))));clear H K9;intro a H;refine bK tT (cs:=[_,_]) H wn rfl rfl (fun j v hj=>H.hp.aF (hrow j v hj)) rfl ?_;clear H;intro a H;refine dY tT H wn rfl ?_;clear H;intro b6 a w hb6 H;refine kH H (Ra rfl ?_);clear H;intro a H;refine bT tT 0 (vs:=[_,_]) _ H wn rfl rfl rfl rfl rfl rfl rfl rfl ?_;clear H;intro w H;dsimp only [List.set,setRow] at H;refine bD _ _ ?_;clear bD;refine oG (ι:=GH) (Tc:=[(0,_),(1,_),(6,_),(14,_),(15,_),(16,_)]) (Lc:=[(_,_)]) (fun gh=>[]) (fun gh=>[]) (fun gh=>gh) (fun gh=>(if tC l[k].key l[k].value=0 then Dx e (BL l (k+1)) (l.drop (k+1)) else tC l[k].key l[k].value)=Dx e none l∧(∀ b o,g b=some o→gh b=some o)) (by exact (H).sub ⟨rfl,rfl,rfl,rfl,rfl,rfl,av⟩) ?_ ?_
  ·skip;refine kP H (SB (SR fun _ bE=>Rm rfl (aR xV aD 0 rfl rfl ?_)));clear H;intro a H;refine s_call R8 H wn rfl (Sv _ _ H.ro e l[k].key) rfl ?_;clear H;rintro v25 IY a w rfl BF H;replace hrow:=fun j u hj=>aJ BF (hrow j u hj);refine kH H (Rn rfl (ak bE rfl (Cd rfl ?_ ?_))) <;> clear H bE
   ·intro h21 a H
    try have ou:=dT h21
    refine kP H (SR fun _ bQ=>ak bQ rfl ?_);clear H bQ;intro a H;refine lr H results95 rfl ?_
    first
     | exact H.rt (ay vi (by rw [ah (by simpa using p61)] at heq;rw [iM,ah (by omega)];exact heq))
     | exact H.rt (ay vi (by rw [au (by simpa using h21)] at heq;rw [iM,ah (by omega)];exact heq))
     | exact H.rt (ay vi (by rw [iM,ah (by omega)];exact heq))
     | exact H.rt (ay vi (by rw [iM,ah (by omega),← heq,show l.drop k=[] from eU (by omega)];rfl))
     | exact H.rt (ay vi (by rw [iM,au (by omega)]))
   intro h21 a H
   try have ou:=dF h21
   rw [ah (by simpa using h21)] at heq;refine aN (fun _ bR=>?_)
   by_cases c0:0 < (k:Int)
   ·skip
    by_cases c1:l[k].key=pk
    ·skip;refine dI hmx [[],[0],[0,1],[0,1,2],(ra 0 4),[0,1,2],[0,1,2],[0,1,2,6],[0,1,2,5,6,7],[0,1,2,5,6,7,8],[0,1,2,5,6,7,8,9],(ra 0 11),(ra 0 12),(ra 0 13)] [13] (by kernel_rfl) [_,_,_,_,vi l[k].key,_,_,vi ((k - 1:Nat):Int),_,_,_,_,_] H (aI (Z0 rfl (Rm rfl)) (Z1 0 28 rfl (Rc rfl)) (Z1 1 29 rfl (Rm rfl)) (Z1 2 30 rfl (YF xV (aG c0) rfl)) (aI (Z2 3 31 2 30 rfl (YO aD 0 (aG c0) rfl)) (Z1 2 30 rfl (YM (aG c0) rfl)) (Z1 2 30 rfl (YM (aG c0) rfl)) ?_ (aI (Z3 5 33 7 35 2 30 rfl (YI tV tT (aG c0) rfl rfl)) (Z2 8 36 2 30 rfl (YF xV (aG c0) rfl)) (X2 9 37 2 30 rfl fun hG=>YR aD (aG c0) rfl (aJ hG (aJ BF (hpk (by omega)).1))) (Z3 4 32 10 38 2 30 rfl (YC (aG c0) rfl)) (bG (Z2 2 30 11 39 rfl (Pt (aG c0) rfl)) (bG (cZ rfl) dQ))))) ?_
     ·refine fu 6 34 2 30 rfl rfl fun _ a w G1 hG HT H fin=>?_;refine mQ _ H (wg H rfl rfl (aG c0)) rfl rfl rfl (by omega) (by omega) rfl ?_;clear H;intro a H;exact fin H iJ (by show _=_;first|rfl|exact ay vi (by omega))
     clear H;intro a w G Ah H hv;have H:=H.bC (hv 12 40 rfl rfl) rfl;clear hv;refine kH H (Ra rfl ?_);clear H;intro a H;refine aH ⟨rfl,?_⟩;refine bR _ _ ?_;clear bR;refine AX H rfl (aG c1) ?_;refine aN (fun _ bW=>?_);rw [au (by rw [(hpk (by omega)).2,c1])] at heq;refine kP H (SC (aL bW rfl ?_));clear H bW;intro a H;refine lr H results95 rfl ?_
     first
      | exact H.rt (ay vi (by rw [ah (by simpa using p61)] at heq;rw [iM,ah (by omega)];exact heq))
      | exact H.rt (ay vi (by rw [au (by simpa using h21)] at heq;rw [iM,ah (by omega)];exact heq))
      | exact H.rt (ay vi (by rw [iM,ah (by omega)];exact heq))
      | exact H.rt (ay vi (by rw [iM,ah (by omega),← heq,show l.drop k=[] from eU (by omega)];rfl))
      | exact H.rt (ay vi (by rw [iM,au (by omega)]))
    skip;refine dI hmx [[],[0],[0,1],[0,1,2],(ra 0 4),[0,1,2],[0,1,2],[0,1,2,6],[0,1,2,5,6,7],[0,1,2,5,6,7,8],[0,1,2,5,6,7,8,9],(ra 0 11),(ra 0 12),(ra 0 13)] [13] (by kernel_rfl) [_,_,_,_,vi l[k].key,_,_,vi ((k - 1:Nat):Int),_,_,_,_,_] H (aI (Z0 rfl (Rm rfl)) (Z1 0 28 rfl (Rc rfl)) (Z1 1 29 rfl (Rm rfl)) (Z1 2 30 rfl (YF xV (aG c0) rfl)) (aI (Z2 3 31 2 30 rfl (YO aD 0 (aG c0) rfl)) (Z1 2 30 rfl (YM (aG c0) rfl)) (Z1 2 30 rfl (YM (aG c0) rfl)) ?_ (aI (Z3 5 33 7 35 2 30 rfl (YI tV tT (aG c0) rfl rfl)) (Z2 8 36 2 30 rfl (YF xV (aG c0) rfl)) (X2 9 37 2 30 rfl fun hG=>YR aD (aG c0) rfl (aJ hG (aJ BF (hpk (by omega)).1))) (Z3 4 32 10 38 2 30 rfl (YC (aG c0) rfl)) (bG (Z2 2 30 11 39 rfl (Pt (aG c0) rfl)) (bG (cZ rfl) dQ))))) ?_
    ·refine fu 6 34 2 30 rfl rfl fun _ a w G1 hG HT H fin=>?_;refine mQ _ H (wg H rfl rfl (aG c0)) rfl rfl rfl (by omega) (by omega) rfl ?_;clear H;intro a H;exact fin H iJ (by show _=_;first|rfl|exact ay vi (by omega))
    clear H;intro a w G Ah H hv;have H:=H.bC (hv 12 40 rfl rfl) rfl;clear hv;refine kH H (Ra rfl ?_);clear H;intro a H;refine aH ⟨rfl,?_⟩;refine bR _ _ ?_;clear bR;refine oF H rfl (aQ c1) ?_;refine aN (fun _ cK=>?_)
    have q1:¬ (0 < (k:Int)∧l[k].key=pk):=by first|exact fun h=>c1 h.2|exact fun h=>c0 h.1
    rw [ah (fun h=>q1 (by
     by_cases h0:0 < k
     ·rw [(hpk h0).2] at h
      injection h with h
      exact ⟨by omega,h.symm⟩
     rw [P5 (by omega)] at h
     cases h))] at heq
    by_cases c3:l[k].key < pk
    ·skip;refine dI hmx [[],[0],[0,1],[0,1,2],(ra 0 4),[0,1,2],[0,1,2],[0,1,2,6],[0,1,2,5,6,7],[0,1,2,5,6,7,8],[0,1,2,5,6,7,8,9],(ra 0 11),(ra 0 12),(ra 0 13)] [13] (by kernel_rfl) [_,_,_,_,vi l[k].key,_,_,vi ((k - 1:Nat):Int),_,_,vi pk,_,_] H (aI (Z0 rfl (Rm rfl)) (Z1 0 42 rfl (Rc rfl)) (Z1 1 43 rfl (Rm rfl)) (Z1 2 44 rfl (YF xV (aG c0) rfl)) (aI (Z2 3 45 2 44 rfl (YO aD 0 (aG c0) rfl)) (Z1 2 44 rfl (YM (aG c0) rfl)) (Z1 2 44 rfl (YM (aG c0) rfl)) ?_ (aI (Z3 5 47 7 49 2 44 rfl (YI tV tT (aG c0) rfl rfl)) (Z2 8 50 2 44 rfl (YF xV (aG c0) rfl)) ?_ (Z3 4 46 10 52 2 44 rfl (YC (aG c0) rfl)) (bG (Z2 2 44 11 53 rfl (Pt (aG c0) rfl)) (bG (cZ rfl) dQ))))) ?_
     ·refine fu 6 48 2 44 rfl rfl fun _ a w G1 hG HT H fin=>?_;refine mQ _ H (wg H rfl rfl (aG c0)) rfl rfl rfl (by omega) (by omega) rfl ?_;clear H;intro a H;exact fin H iJ (by show _=_;first|rfl|exact ay vi (by omega))
     ·refine fu 9 51 2 44 rfl rfl fun _ a w G1 hG HT H fin=>?_;refine zK aD H (wg H rfl rfl (aG c0)) rfl (H.hp.aF (aJ hG (aJ Ah (aJ BF (hpk (by omega)).1)))) rfl ?_;clear H;intro a H;exact fin H iJ rfl
     clear H;intro a w G vI H hv;have H:=H.bC (hv 12 54 rfl rfl) rfl;clear hv;refine kH H (Ra rfl ?_);clear H;intro a H;refine aH ⟨rfl,?_⟩;refine cK _ _ ?_;clear cK;refine AX H rfl (aG c3) ?_;refine aN (fun _ bY=>?_);rw [au (by rw [(hpk (by omega)).2];exact aG c3)] at heq;refine kP H (SC (aL bY rfl ?_));clear H bY;intro a H;refine lr H results95 rfl ?_
     first
      | exact H.rt (ay vi (by rw [ah (by simpa using p61)] at heq;rw [iM,ah (by omega)];exact heq))
      | exact H.rt (ay vi (by rw [au (by simpa using h21)] at heq;rw [iM,ah (by omega)];exact heq))
      | exact H.rt (ay vi (by rw [iM,ah (by omega)];exact heq))
      | exact H.rt (ay vi (by rw [iM,ah (by omega),← heq,show l.drop k=[] from eU (by omega)];rfl))
      | exact H.rt (ay vi (by rw [iM,au (by omega)]))
    skip;refine dI hmx [[],[0],[0,1],[0,1,2],(ra 0 4),[0,1,2],[0,1,2],[0,1,2,6],[0,1,2,5,6,7],[0,1,2,5,6,7,8],[0,1,2,5,6,7,8,9],(ra 0 11),(ra 0 12),(ra 0 13)] [13] (by kernel_rfl) [_,_,_,_,vi l[k].key,_,_,vi ((k - 1:Nat):Int),_,_,vi pk,_,_] H (aI (Z0 rfl (Rm rfl)) (Z1 0 42 rfl (Rc rfl)) (Z1 1 43 rfl (Rm rfl)) (Z1 2 44 rfl (YF xV (aG c0) rfl)) (aI (Z2 3 45 2 44 rfl (YO aD 0 (aG c0) rfl)) (Z1 2 44 rfl (YM (aG c0) rfl)) (Z1 2 44 rfl (YM (aG c0) rfl)) ?_ (aI (Z3 5 47 7 49 2 44 rfl (YI tV tT (aG c0) rfl rfl)) (Z2 8 50 2 44 rfl (YF xV (aG c0) rfl)) ?_ (Z3 4 46 10 52 2 44 rfl (YC (aG c0) rfl)) (bG (Z2 2 44 11 53 rfl (Pt (aG c0) rfl)) (bG (cZ rfl) dQ))))) ?_
    ·refine fu 6 48 2 44 rfl rfl fun _ a w G1 hG HT H fin=>?_;refine mQ _ H (wg H rfl rfl (aG c0)) rfl rfl rfl (by omega) (by omega) rfl ?_;clear H;intro a H;exact fin H iJ (by show _=_;first|rfl|exact ay vi (by omega))
    ·refine fu 9 51 2 44 rfl rfl fun _ a w G1 hG HT H fin=>?_;refine zK aD H (wg H rfl rfl (aG c0)) rfl (H.hp.aF (aJ hG (aJ Ah (aJ BF (hpk (by omega)).1)))) rfl ?_;clear H;intro a H;exact fin H iJ rfl
    clear H;intro a w G vI H hv;have H:=H.bC (hv 12 54 rfl rfl) rfl;clear hv;refine kH H (Ra rfl ?_);clear H;intro a H;refine aH ⟨rfl,?_⟩;refine cK _ _ ?_;clear cK;refine oF H rfl (aQ c3) ?_;refine fT ?_;refine ⟨_,by exact (H).sub ⟨rfl,rfl,rfl,rfl,rfl,rfl,av⟩,?_⟩
    have q2:¬ (0 < (k:Int)∧l[k].key < pk):=by first|exact fun h=>c3 h.2|exact fun h=>c0 h.1
    rw [ah (fun h=>q2 (by
     by_cases h0:0 < k
     ·rw [(hpk h0).2] at h;exact ⟨by omega,oU h⟩
     rw [P5 (by omega)] at h
     cases h))] at heq
    exact ⟨heq,fun b o h=>vI b o (Ah b o (BF b o h))⟩
   skip;refine dI hmx [[],[0],[0,1],[0,1,2],(ra 0 4),[0,1,2],[0,1,2],[0,1,2,6],[0,1,2,5,6,7],[0,1,2,5,6,7,8],[0,1,2,5,6,7,8,9],(ra 0 11),(ra 0 12),(ra 0 13)] [13] (by kernel_rfl) [_,_,_,undef,undef,undef,undef,undef,undef,undef,undef,undef,_] H (aI (Z0 rfl (Rm rfl)) (Z1 0 28 rfl (Rc rfl)) (Z1 1 29 rfl (Rm rfl)) (aV (j:=2) (by kernel_rfl) (fun _ _ _ _ _ h=>h) rfl rfl rfl rfl rfl (fun _ _ h=>aW h (aM (aQ c0))) rfl (fun _=>rfl)) (aI (aV (j:=2) (by kernel_rfl) (fun _ _ _ _ _ h=>h) rfl rfl rfl rfl rfl (fun _ _ h=>aW h (aM (aQ c0))) rfl (fun _=>rfl)) (aV (j:=2) (by kernel_rfl) (fun _ _ _ _ _ h=>h) rfl rfl rfl rfl rfl (fun _ _ h=>aW h (aM (aQ c0))) rfl (fun _=>rfl)) (aV (j:=2) (by kernel_rfl) (fun _ _ _ _ _ h=>h) rfl rfl rfl rfl rfl (fun _ _ h=>aW h (aM (aQ c0))) rfl (fun _=>rfl)) (aV (j:=2) (by kernel_rfl) (fun _ _ _ _ _ h=>h) rfl rfl rfl rfl rfl (fun _ _ h=>aW h (aM (aQ c0))) rfl (fun _=>rfl)) (aI (aV (j:=2) (by kernel_rfl) (fun _ _ _ _ _ h=>h) rfl rfl rfl rfl rfl (fun _ _ h=>aW h (aM (aQ c0))) rfl (fun _=>rfl)) (aV (j:=2) (by kernel_rfl) (fun _ _ _ _ _ h=>h) rfl rfl rfl rfl rfl (fun _ _ h=>aW h (aM (aQ c0))) rfl (fun _=>rfl)) (aV (j:=2) (by kernel_rfl) (fun _ _ _ _ _ h=>h) rfl rfl rfl rfl rfl (fun _ _ h=>aW h (aM (aQ c0))) rfl (fun _=>rfl)) (aV (j:=2) (by kernel_rfl) (fun _ _ _ _ _ h=>h) rfl rfl rfl rfl rfl (fun _ _ h=>aW h (aM (aQ c0))) rfl (fun _=>rfl)) (bG (Z2 2 30 11 39 rfl (Pf (aQ c0) rfl)) (bG (cZ rfl) dQ))))) ?_
   clear H;intro a w G Ah H hv;have H:=H.bC (hv 12 40 rfl rfl) rfl;clear hv;refine kH H (Ra rfl ?_);clear H;intro a H;refine aH ⟨rfl,?_⟩;refine bR _ _ ?_;clear bR;refine oF H rfl rfl ?_;refine aN (fun _ dG=>?_)
   have q1:¬ (0 < (k:Int)∧l[k].key=pk):=by first|exact fun h=>c1 h.2|exact fun h=>c0 h.1
   rw [ah (fun h=>q1 (by
    by_cases h0:0 < k
    ·rw [(hpk h0).2] at h
     injection h with h
     exact ⟨by omega,h.symm⟩
    rw [P5 (by omega)] at h
    cases h))] at heq
   refine dI hmx [[],[0],[0,1],[0,1,2],(ra 0 4),[0,1,2],[0,1,2],[0,1,2,6],[0,1,2,5,6,7],[0,1,2,5,6,7,8],[0,1,2,5,6,7,8,9],(ra 0 11),(ra 0 12),(ra 0 13)] [13] (by kernel_rfl) [_,_,_,undef,undef,undef,undef,undef,undef,undef,undef,undef,_] H (aI (Z0 rfl (Rm rfl)) (Z1 0 42 rfl (Rc rfl)) (Z1 1 43 rfl (Rm rfl)) (aV (j:=2) (by kernel_rfl) (fun _ _ _ _ _ h=>h) rfl rfl rfl rfl rfl (fun _ _ h=>aW h (aM (aQ c0))) rfl (fun _=>rfl)) (aI (aV (j:=2) (by kernel_rfl) (fun _ _ _ _ _ h=>h) rfl rfl rfl rfl rfl (fun _ _ h=>aW h (aM (aQ c0))) rfl (fun _=>rfl)) (aV (j:=2) (by kernel_rfl) (fun _ _ _ _ _ h=>h) rfl rfl rfl rfl rfl (fun _ _ h=>aW h (aM (aQ c0))) rfl (fun _=>rfl)) (aV (j:=2) (by kernel_rfl) (fun _ _ _ _ _ h=>h) rfl rfl rfl rfl rfl (fun _ _ h=>aW h (aM (aQ c0))) rfl (fun _=>rfl)) (aV (j:=2) (by kernel_rfl) (fun _ _ _ _ _ h=>h) rfl rfl rfl rfl rfl (fun _ _ h=>aW h (aM (aQ c0))) rfl (fun _=>rfl)) (aI (aV (j:=2) (by kernel_rfl) (fun _ _ _ _ _ h=>h) rfl rfl rfl rfl rfl (fun _ _ h=>aW h (aM (aQ c0))) rfl (fun _=>rfl)) (aV (j:=2) (by kernel_rfl) (fun _ _ _ _ _ h=>h) rfl rfl rfl rfl rfl (fun _ _ h=>aW h (aM (aQ c0))) rfl (fun _=>rfl)) (aV (j:=2) (by kernel_rfl) (fun _ _ _ _ _ h=>h) rfl rfl rfl rfl rfl (fun _ _ h=>aW h (aM (aQ c0))) rfl (fun _=>rfl)) (aV (j:=2) (by kernel_rfl) (fun _ _ _ _ _ h=>h) rfl rfl rfl rfl rfl (fun _ _ h=>aW h (aM (aQ c0))) rfl (fun _=>rfl)) (bG (Z2 2 44 11 53 rfl (Pf (aQ c0) rfl)) (bG (cZ rfl) dQ))))) ?_
   clear H;intro a w G vI H hv;have H:=H.bC (hv 12 54 rfl rfl) rfl;clear hv;refine kH H (Ra rfl ?_);clear H;intro a H;refine aH ⟨rfl,?_⟩;refine dG _ _ ?_;clear dG;refine oF H rfl rfl ?_;refine fT ?_;refine ⟨_,by exact (H).sub ⟨rfl,rfl,rfl,rfl,rfl,rfl,av⟩,?_⟩
   have q2:¬ (0 < (k:Int)∧l[k].key < pk):=by first|exact fun h=>c3 h.2|exact fun h=>c0 h.1
   rw [ah (fun h=>q2 (by
    by_cases h0:0 < k
    ·rw [(hpk h0).2] at h;exact ⟨by omega,oU h⟩
    rw [P5 (by omega)] at h
    cases h))] at heq
   exact ⟨heq,fun b o h=>vI b o (Ah b o (BF b o h))⟩
  clear H;intro g2 a w hI H;obtain ⟨heq,kI⟩:=hI;replace hrow:=fun j u hj=>aJ kI (hrow j u hj);dsimp only [lca,aO] at H;refine kP H (SR fun _ dN=>aR xV aD 0 rfl rfl (aR Si aD 0 rfl rfl ?_));clear H;intro a H;refine s_call GR H wn rfl (GN _ _ H.ro l[k].key l[k].value) rfl ?_;clear H;rintro v59 G59 a w rfl akz H;refine kH H (ak dN rfl (SR fun _ dH=>Rm rfl (Rc rfl (Kz dH (Cd rfl ?_ ?_))))) <;> clear H dN dH
  ·intro pE a H
   try have p61:=dT pE
   refine kP H (SR fun _ dP=>Rm rfl (ak dP rfl ?_));clear H dP;intro a H;refine lr H results95 rfl ?_
   first
    | exact H.rt (ay vi (by rw [ah (by simpa using p61)] at heq;rw [iM,ah (by omega)];exact heq))
    | exact H.rt (ay vi (by rw [au (by simpa using h21)] at heq;rw [iM,ah (by omega)];exact heq))
    | exact H.rt (ay vi (by rw [iM,ah (by omega)];exact heq))
    | exact H.rt (ay vi (by rw [iM,ah (by omega),← heq,show l.drop k=[] from eU (by omega)];rfl))
    | exact H.rt (ay vi (by rw [iM,au (by omega)]))
  intro pE a H
  try have p61:=dF pE
  refine kP H (Kc aU (SC (Rd rfl (Rm rfl ?_))));clear H aU;intro a H;refine aH ?_;refine cB ((k+1,G59)) (by exact (H.dx (Pl:=[_]) (bZ:=[]) [] (by decide) rfl).sub ⟨rfl,rfl,rfl,rfl,rfl,av⟩) ?_ ?_
  ·(try dsimp only);exact ⟨by omega,by rw [au (by simpa using p61)] at heq;exact heq,fun b o h=>akz b o (kI b o (hgm b o h))⟩
  first|omega|(dsimp only;omega)
 intro gu a H
 try have mo:=dF gu
 refine dJ ?_;refine K6 _ _ ?_;clear K6;refine kP H (SR fun _ eT=>ak eT rfl ?_);clear H eT;intro a H;refine lr H results95 rfl ?_
 first
  | exact H.rt (ay vi (by rw [ah (by simpa using p61)] at heq;rw [iM,ah (by omega)];exact heq))
  | exact H.rt (ay vi (by rw [au (by simpa using h21)] at heq;rw [iM,ah (by omega)];exact heq))
  | exact H.rt (ay vi (by rw [iM,ah (by omega)];exact heq))
  | exact H.rt (ay vi (by rw [iM,ah (by omega),← heq,show l.drop k=[] from eU (by omega)];rfl))
  | exact H.rt (ay vi (by rw [iM,au (by omega)]))
end
section
open Go.RowKit
theorem iO:Ty prog 42 1 8 [.int .i64 0] false:=⟨by kernel_rfl,by kernel_rfl⟩
theorem qV:prog.underlying 195=some (.slice 42):=by kernel_rfl
theorem za:∀ args w,(callFunc 134 args).run prog w=.ok (.enter 134 args) w:=enters func134 rfl (by kernel_rfl)
theorem zB (G:GH) (w0:World) (hG:Hold G w0) (n l h:Int):Calls prog 134 #[vi n,vi l,vi h] w0 (bV w0 G fun u G'=>u=.bool (decide (l≤n∧n≤h))∧G=G'):=by
 refine eN [(0,_),(1,_),(2,_)] func134 rfl ntmps134 rfl rfl hG ?_;intro a H;refine kP H (SR fun _ K1=>ak K1 rfl (SR fun _ K2=>Rm rfl (Rm rfl (Rc rfl (Rm rfl (Sp 10 rfl ?_ ?_)))))) <;> clear H K1
 ·intro h10 a H
  try have sJ:=dT h10
  exact kH H (YM h10 rfl (YM h10 rfl (YC h10 rfl (Pt h10 rfl (ak K2 rfl (LR results134 rfl fun H=>H.rt ⟨aM (by first|(simp_all;done)|(simp_all;omega)),rfl⟩))))))
 intro h10 a H
 try have sJ:=dF h10
 exact kH H (aZ h10 rfl (Pf h10 rfl (ak K2 rfl (LR results134 rfl fun H=>H.rt ⟨aM (by first|(simp_all;done)|(simp_all;omega)),rfl⟩))))
def bL (b:Bool) (e:Int):Int:=if b=true then e else 0
theorem ku (G:GH) (w0:World) (hG:Hold G w0) (b:Bool) (e:Int):Calls prog 47 #[.bool b,vi e] w0 (bV w0 G fun u G'=>u=vi (bL b e)∧G=G'):=by
 refine eN [(0,_),(1,_)] func47 rfl ntmps47 rfl rfl hG ?_;intro a H;refine kP H (SR fun _ K1=>ak K1 rfl (SQ fun _ K2=>SR fun _ K3=>Rm rfl (Kz K3 (Cd rfl ?_ ?_)))) <;> clear H K1 K3
 ·intro h5 a H
  try have p5:=dT h5
  exact kP H (SR fun _ K4=>Rm rfl (ak K4 rfl (LR results47 rfl fun H=>H.rt ⟨ay vi (by simp_all [bL]),rfl⟩)))
 intro h5 a H
 try have p5:=dF h5
 exact kP H (Kc K2 (SR fun _ K5=>ak K5 rfl (LR results47 rfl fun H=>H.rt ⟨ay vi (by simp_all [bL]),rfl⟩)))
def bO:List Int→Int
 | []=>0
 | e :: r=>if e≠0 then e else bO r
theorem Ot {l:List Int} {k:Nat} (h:k < l.length):bO (l.drop k)=if l[k]≠0 then l[k] else bO (l.drop (k+1)):=by
 rw [jw h,bO]
theorem rZ (G:GH) (w0:World) (hG:Hold G w0) (l:List Int) (v:aj) (hv:aB G (.sl 1 (l.map fun k=>[li k])) v) :
  Calls prog 72 #[v] w0 (bV w0 G fun u G'=>u=vi (bO l)∧G=G'):=by
 obtain ⟨A,c,rfl,hc1,hc2,hg⟩:=hv.slice;have hml:maxLen=9223372036854775807:=rfl;rw [bN] at *;refine eN [(0,_)] func72 rfl ntmps72 rfl rfl hG ?_;intro a H;refine kP H (SR fun _ K1=>ak K1 rfl (SQ fun _ K2=>SR fun _ K3=>Rm rfl (Rl qV rfl (Rm rfl (Kz K3 (SB ?_))))));clear H K1 K3;intro a H;skip;refine dV (ι:=Nat) (Tc:=[(5,_),(6,_)]) (Lc:=[]) (fun gh=>[(7,vi gh)]) (fun gh=>[]) (fun gh=>G) (fun gh=>gh≤l.length∧bO (l.drop gh)=bO l) (fun gh=>l.length - gh) (0) (by exact (H).sub ⟨rfl,rfl,rfl,av⟩) ?_ ?_
 ·exact ⟨fQ _,rfl⟩
 clear H;intro k a w hI H;obtain ⟨hk,he⟩:=hI;dsimp only [lca,aO] at H;refine kP H (SR fun _ K4=>Rc rfl (Kz K4 (SQ fun _ K5=>Cd rfl ?_ ?_))) <;> clear H K4
 ·intro h8 a H
  try have p8:=dT h8
  have hk2:k < l.length:=by omega
  obtain ⟨b,o,cs,rfl,hcl,hrow,hr⟩:=hg k [li l[k]] (by simp [hk2]);obtain ⟨v1,_,rfl,⟨rfl,-⟩,rfl⟩:∃ v vs,cs=v :: vs∧aB G (li l[k]) v∧bM G [] vs:=hr
  have hcell:aF G b (o+k*1)=some (vi l[k]):=by simpa using hrow 0 _ rfl
  refine kP H (Kc K5 (SQ fun _ K6=>SB (SR fun _ K7=>Ri qV iO rfl rfl (Rg iO rfl hcell (ak K7 rfl (SR fun _ K8=>Rm rfl (Rc rfl (Kz K8 (Cd rfl ?_ ?_))))))))) <;> clear H K5 K7 K8
  ·intro h12 a H
   try have qm:=dT h12
   exact kP H (SR fun _ K9=>Rm rfl (ak K9 rfl (LR results72 rfl fun H=>H.rt ⟨ay vi (by rw [Ot hk2,au qm] at he;exact he),rfl⟩)))
  intro h12 a H
  try have qm:=dF h12
  refine kP H (Kc K6 (SC (Rd rfl (Rm rfl ?_))));clear H K6;intro a H;refine aH ?_;refine cB ((k+1)) (by exact (H).sub ⟨rfl,rfl,rfl,av⟩) ?_ ?_
  ·exact ⟨by omega,by rw [Ot hk2,ah qm] at he;exact he⟩
  first|omega|(dsimp only;omega)
 intro h8 a H
 try have p8:=dF h8
 refine dJ ?_;refine K2 _ _ ?_;clear K2;exact kP H (SR fun _ aU=>ak aU rfl (LR results72 rfl fun H=>H.rt ⟨ay vi (by rw [eU (by omega)] at he;exact he),rfl⟩))
def uY (fv:aj) (Gi:GH) (n:Nat) (E:Nat→Int):Prop:=∀ i,i < n→∀ (G1:GH) (w1:World),(∀ b o,Gi b=some o→G1 b=some o)→Hold G1 w1→yN prog fv [vi i] w1 (bV w1 G1 fun u G'=>u=vi (E i))
theorem uY.mono {fv:aj} {G G':GH} {n:Nat} {E:Nat→Int} (h:uY fv G n E) (hm:∀ b o,G b=some o→G' b=some o):uY fv G' n E:=fun i hi G1 w1 hG1=>h i hi G1 w1 fun b o hb=>hG1 b o (hm b o hb)
def iw (E:Nat→Int) (n:Nat):Int:=bO ((List.range n).map E)
theorem qE {E:Nat→Int} {n k:Nat} (h:k < n):bO (((List.range n).map E).drop k)=if E k≠0 then E k else bO (((List.range n).map E).drop (k+1)):=by
 rw [Ot (by simpa using h)];simp
theorem Lg (G:GH) (w0:World) (hG:Hold G w0) (n:Nat) (E:Nat→Int) (fv:aj) (hn:n≤4611686018427387904) (hf:uY fv G n E) :
  Calls prog 101 #[vi n,fv] w0 (bV w0 G fun u G'=>u=vi (iw E n)):=by
 refine eN [(0,_),(1,_)] func101 rfl ntmps101 rfl rfl hG ?_;intro a H;refine kP H (SR fun _ K1=>ak K1 rfl (SQ fun _ K2=>SR fun _ K3=>Rm rfl (Rm rfl (Kz K3 (SB ?_)))));clear H K1 K3;intro a H;skip;refine dV (ι:=Nat × GH) (Tc:=[(1,_),(7,_)]) (Lc:=[]) (fun gh=>[(8,vi gh.1)]) (fun gh=>[]) (fun gh=>gh.2) (fun gh=>gh.1≤n∧bO (((List.range n).map E).drop gh.1)=iw E n∧(∀ b o,G b=some o→gh.2 b=some o)) (fun gh=>n - gh.1) ((0,G)) (by exact (H).sub ⟨rfl,rfl,rfl,av⟩) ?_ ?_
 ·exact ⟨fQ _,rfl,fun _ _ h=>h⟩
 clear H;rintro ⟨k,g⟩ a w hI H;dsimp only at hI H;obtain ⟨hk,he,hgm⟩:=hI;dsimp only [lca,aO] at H;refine kP H (SR fun _ K4=>Rc rfl (Kz K4 (SQ fun _ K5=>Cd rfl ?_ ?_))) <;> clear H K4
 ·intro h9 a H
  try have p9:=dT h9
  have hk2:k < n:=by omega
  refine kP H (Kc K5 (SQ fun _ K6=>SB (SR fun _ K7=>Rm rfl (ak K7 rfl (SR fun _ K8=>Rm rfl (Rm rfl ?_))))));clear H K5 K7;intro a H;refine vP H wn rfl rfl (hf k hk2 _ _ hgm H.ro) rfl ?_;clear H;rintro v13 qB a w rfl ql H;refine kH H (ak K8 rfl (SR fun _ K9=>Rm rfl (Rc rfl (Kz K9 (Cd rfl ?_ ?_))))) <;> clear H K8 K9
  ·intro jV a H
   try have qo:=dT jV
   exact kP H (SR fun _ aU=>Rm rfl (ak aU rfl (LR results101 rfl fun H=>H.rt (ay vi (by rw [qE hk2,au qo] at he;exact he)))))
  intro jV a H
  try have qo:=dF jV
  refine kP H (Kc K6 (SC (Rd rfl (Rm rfl ?_))));clear H K6;intro a H;refine aH ?_;refine cB ((k+1,qB)) (by exact (H).sub ⟨rfl,rfl,rfl,av⟩) ?_ ?_
  ·(try dsimp only);exact ⟨by omega,by rw [qE hk2,ah qo] at he;exact he,fun b o h=>ql b o (hgm b o h)⟩
  first|omega|(dsimp only;omega)
 intro h9 a H
 try have p9:=dF h9
 refine dJ ?_;refine K2 _ _ ?_;clear K2;exact kP H (SR fun _ bD=>ak bD rfl (LR results101 rfl fun H=>H.rt (ay vi (by rw [eU (by simp;omega)] at he;exact he))))
def kK (id:Nat→Int) (i:Nat):Int:=if ¬ (1≤id i∧id i≤1073741824) then 18 else if 0 < i∧id i=id (i - 1) then 7 else if 0 < i∧id i < id (i - 1) then 6 else 0
theorem Vd (G:GH) (w0:World) (hG:Hold G w0) (i:Nat) (id:Nat→Int) (fv:aj) (hn:i≤4611686018427387904) (hf:uY fv G (i+1) id) :
  Calls prog 131 #[vi i,fv] w0 (bV w0 G fun u G'=>u=vi (kK id i)):=by
 refine eN [(0,_),(1,_)] func131 rfl ntmps131 rfl rfl hG ?_;intro a H;refine kP H (SR fun _ K1=>ak K1 rfl (SQ fun _ K2=>SB (SR fun _ K3=>Rm rfl (Rm rfl ?_))));clear H K1;intro a H;refine vP H wn rfl rfl (hf i (Nat.lt_succ_self _) _ _ (fun _ _ h=>h) H.ro) rfl ?_;clear H;rintro v8 G8 a w rfl Al H;refine s_call za H wn rfl (zB _ _ H.ro (id i) 1 1073741824) rfl ?_;clear H;rintro v9 _ a w ⟨rfl,rfl⟩ - H;refine kH H (Rn rfl (ak K3 rfl (Cd rfl ?_ ?_))) <;> clear H K3
 ·intro h5 a H
  try have p5:=dT h5
  refine kP H (SR fun _ K4=>ak K4 rfl ?_);clear H K4;intro a H;refine lr H results131 rfl ?_
  exact H.rt (ay vi (by unfold kK;(repeat' split) <;> first|rfl|(exfalso;simp_all;done)|(exfalso;simp_all;omega)))
 intro h5 a H
 try have p5:=dF h5
 refine kP H (SR fun _ K5=>Rm rfl (Rc rfl (Rm rfl (Sp 14 rfl ?_ ?_)))) <;> clear H
 ·intro gT a H
  try have sK:=dT gT
  refine kH H (YM gT rfl (YM gT rfl ?_));clear H;intro a H;refine vP H (wg H rfl rfl gT) rfl rfl (hf i (Nat.lt_succ_self _) _ _ Al H.ro) rfl ?_;clear H;rintro v17 WZ a w rfl Fw H;refine kH H (YM gT rfl (YM gT rfl ?_));clear H;intro a H;refine mQ _ H (wg H rfl rfl gT) rfl rfl rfl (by omega) (by omega) rfl ?_;clear H;intro a H;rw [show ((i:Int) - 1)=((i - 1:Nat):Int) by omega] at H;refine vP H (wg H rfl rfl gT) rfl rfl (hf (i - 1) (by omega) _ _ (fun b o h=>Fw b o (Al b o h)) H.ro) rfl ?_;clear H;rintro v21 W9 a w rfl D8 H;refine kH H (YC gT rfl (Pt gT rfl (ak K5 rfl (Cd rfl ?_ ?_)))) <;> clear H K5
  ·intro h11 a H
   try have yC:=dT h11
   refine kP H (SR fun _ K6=>ak K6 rfl ?_);clear H K6;intro a H;refine lr H results131 rfl ?_
   exact H.rt (ay vi (by unfold kK;(repeat' split) <;> first|rfl|(exfalso;simp_all;done)|(exfalso;simp_all;omega)))
  intro h11 a H
  try have yC:=dF h11
  refine kP H (SR fun _ K7=>Rm rfl (Rc rfl (Rm rfl (Sp 27 rfl ?_ ?_)))) <;> clear H
  ·intro h27 a H
   try have p27:=dT h27
   refine kH H (YM h27 rfl (YM h27 rfl ?_));clear H;intro a H;refine vP H (wg H rfl rfl h27) rfl rfl (hf i (Nat.lt_succ_self _) _ _ (fun b o h=>by first|exact D8 b o (Fw b o (Al b o h))|(exfalso;omega)) H.ro) rfl ?_;clear H;rintro v30 EC a w rfl Fx H;refine kH H (YM h27 rfl (YM h27 rfl ?_));clear H;intro a H;refine mQ _ H (wg H rfl rfl h27) rfl rfl rfl (by omega) (by omega) rfl ?_;clear H;intro a H;rw [show ((i:Int) - 1)=((i - 1:Nat):Int) by omega] at H;refine vP H (wg H rfl rfl h27) rfl rfl (hf (i - 1) (by omega) _ _ (fun b o h=>by first|exact Fx b o (D8 b o (Fw b o (Al b o h)))|(exfalso;omega)) H.ro) rfl ?_;clear H;rintro v34 Xb a w rfl aak H;refine kH H (YC h27 rfl (Pt h27 rfl (ak K7 rfl (Cd rfl ?_ ?_)))) <;> clear H K7
   ·intro iy a H
    try have ow:=dT iy
    refine kP H (SR fun _ K8=>ak K8 rfl ?_);clear H K8;intro a H;refine lr H results131 rfl ?_
    exact H.rt (ay vi (by unfold kK;(repeat' split) <;> first|rfl|(exfalso;simp_all;done)|(exfalso;simp_all;omega)))
   intro iy a H
   try have ow:=dF iy
   refine kP H (Kc K2 (SR fun _ K9=>ak K9 rfl ?_));clear H K2 K9;intro a H;refine lr H results131 rfl ?_
   exact H.rt (ay vi (by unfold kK;(repeat' split) <;> first|rfl|(exfalso;simp_all;done)|(exfalso;simp_all;omega)))
  intro h27 a H
  try have p27:=dF h27
  refine kH H (aZ h27 rfl (aZ h27 rfl (aT h27 rfl (Pf h27 rfl (ak K7 rfl (Cf rfl rfl (Kc K2 (SR fun _ aU=>ak aU rfl ?_))))))));clear H K7 K2 aU;intro a H;refine lr H results131 rfl ?_
  exact H.rt (ay vi (by unfold kK;(repeat' split) <;> first|rfl|(exfalso;simp_all;done)|(exfalso;simp_all;omega)))
 intro gT a H
 try have sK:=dF gT
 refine kH H (aZ gT rfl (aZ gT rfl (aT gT rfl (Pf gT rfl (ak K5 rfl (Cf rfl rfl (SR fun _ bD=>Rm rfl (Rc rfl (Rm rfl (Sp 27 rfl ?_ ?_)))))))))) <;> clear H K5
 ·intro h27 a H
  try have p27:=dT h27
  refine kH H (YM h27 rfl (YM h27 rfl ?_));clear H;intro a H;refine vP H (wg H rfl rfl h27) rfl rfl (hf i (Nat.lt_succ_self _) _ _ (fun b o h=>by first|exact D8 b o (Fw b o (Al b o h))|(exfalso;omega)) H.ro) rfl ?_;clear H;rintro v30 EC a w rfl Fx H;refine kH H (YM h27 rfl (YM h27 rfl ?_));clear H;intro a H;refine mQ _ H (wg H rfl rfl h27) rfl rfl rfl (by omega) (by omega) rfl ?_;clear H;intro a H;rw [show ((i:Int) - 1)=((i - 1:Nat):Int) by omega] at H;refine vP H (wg H rfl rfl h27) rfl rfl (hf (i - 1) (by omega) _ _ (fun b o h=>by first|exact Fx b o (D8 b o (Fw b o (Al b o h)))|(exfalso;omega)) H.ro) rfl ?_;clear H;rintro v34 Xb a w rfl aak H;refine kH H (YC h27 rfl (Pt h27 rfl (ak bD rfl (Cd rfl ?_ ?_)))) <;> clear H bD
  ·intro iy a H
   try have ow:=dT iy
   refine kP H (SR fun _ bE=>ak bE rfl ?_);clear H bE;intro a H;refine lr H results131 rfl ?_
   exact H.rt (ay vi (by unfold kK;(repeat' split) <;> first|rfl|(exfalso;simp_all;done)|(exfalso;simp_all;omega)))
  intro iy a H
  try have ow:=dF iy
  refine kP H (Kc K2 (SR fun _ bQ=>ak bQ rfl ?_));clear H K2 bQ;intro a H;refine lr H results131 rfl ?_
  exact H.rt (ay vi (by unfold kK;(repeat' split) <;> first|rfl|(exfalso;simp_all;done)|(exfalso;simp_all;omega)))
 intro h27 a H
 try have p27:=dF h27
 refine kH H (aZ h27 rfl (aZ h27 rfl (aT h27 rfl (Pf h27 rfl (ak bD rfl (Cf rfl rfl (Kc K2 (SR fun _ bR=>ak bR rfl ?_))))))));clear H bD K2 bR;intro a H;refine lr H results131 rfl ?_
 exact H.rt (ay vi (by unfold kK;(repeat' split) <;> first|rfl|(exfalso;simp_all;done)|(exfalso;simp_all;omega)))
end
section
open Go.RowKit
theorem kg:∀ args w,(callFunc 47 args).run prog w=.ok (.enter 47 args) w:=enters func47 rfl (by kernel_rfl)
theorem rY:∀ args w,(callFunc 72 args).run prog w=.ok (.enter 72 args) w:=enters func72 rfl (by kernel_rfl)
def qb (s:ByteArray):Bool:=decide (1≤s.size∧s.size≤40) && qW s
theorem XY (G:GH) (w0:World) (hG:Hold G w0) (s:ByteArray) (hs:s.size < 4611686018427387904):Calls prog 133 #[.string s] w0 (bV w0 G fun u G'=>u=.bool (qb s)∧G=G'):=by
 refine eN [(0,_)] func133 rfl ntmps133 rfl rfl hG ?_;intro a H;refine kP H (SR fun _ K1=>ak K1 rfl (SR fun _ K2=>Rm rfl (Rv iD rfl (Rc rfl (Rm rfl (Sp 6 rfl ?_ ?_)))))) <;> clear H K1
 ·intro h6 a H
  try have p6:=dT h6
  refine kH H (YM h6 rfl ?_);clear H;intro a H;refine BO iD H (wg H rfl rfl h6) rfl rfl ?_;clear H;intro a H;refine kH H (YC h6 rfl (Pt h6 rfl (Rm rfl (Sp 11 rfl ?_ ?_)))) <;> clear H
  ·intro h11 a H
   try have yC:=dT h11
   refine kH H (YM h11 rfl ?_);clear H;intro a H;refine s_call E8 H (wg H rfl rfl h11) rfl (FY _ _ H.ro s hs) rfl ?_;clear H;rintro v13 _ a w ⟨rfl,rfl⟩ - H;exact kH H (Pt h11 rfl (ak K2 rfl (LR results133 rfl fun H=>H.rt ⟨aM (by unfold qb;first|(simp_all;done)|(simp_all;omega)),rfl⟩)))
  intro h11 a H
  try have yC:=dF h11
  exact kH H (aT h11 rfl (Pf h11 rfl (ak K2 rfl (LR results133 rfl fun H=>H.rt ⟨aM (by unfold qb;first|(simp_all;done)|(simp_all;omega)),rfl⟩))))
 intro h6 a H
 try have p6:=dF h6
 exact kH H (aZ h6 rfl (Pf h6 rfl (Rm rfl (aT rfl rfl (Pf rfl rfl (ak K2 rfl (LR results133 rfl fun H=>H.rt ⟨aM (by unfold qb;first|(simp_all;done)|(simp_all;omega)),rfl⟩)))))))
theorem XW (G:GH) (w0:World) (hG:Hold G w0) (s:ByteArray) (hs:s.size < 4611686018427387904):Calls prog 42 #[.string s] w0 (bV w0 G fun u G'=>u=.bool (qb s)∧G=G'):=by
 refine eN [(0,_)] func42 rfl ntmps42 rfl rfl hG ?_;intro a H;refine kP H (SR fun _ K1=>ak K1 rfl (SR fun _ K2=>Rm rfl ?_));clear H K1;intro a H;refine s_call E8 H wn rfl (FY _ _ H.ro s hs) rfl ?_;clear H;rintro v4 _ a w ⟨rfl,rfl⟩ - H;refine kH H (Rm rfl (Sp 5 rfl ?_ ?_)) <;> clear H
 ·intro h5 a H
  try have p5:=dT h5
  refine kH H (YM h5 rfl ?_);clear H;intro a H;refine BO iD H (wg H rfl rfl h5) rfl rfl ?_;clear H;intro a H;refine kH H (YC h5 rfl (Pt h5 rfl (Rm rfl (Sp 10 rfl ?_ ?_)))) <;> clear H
  ·intro h10 a H
   try have sJ:=dT h10
   refine kH H (YM h10 rfl ?_);clear H;intro a H;refine BO iD H (wg H rfl rfl h10) rfl rfl ?_;clear H;intro a H;refine kH H (YC h10 rfl (Pt h10 rfl (ak K2 rfl ?_)));clear H K2;intro a H;refine lr H results42 rfl ?_;refine H.rt ⟨aM ?_,rfl⟩
   unfold qb
   cases hvs:qW s <;> simp_all
   all_goals (first|omega|(rw [ru];simp;omega))
  intro h10 a H
  try have sJ:=dF h10
  refine kH H (aZ h10 rfl (Pf h10 rfl (ak K2 rfl ?_)));clear H K2;intro a H;refine lr H results42 rfl ?_;refine H.rt ⟨aM ?_,rfl⟩
  unfold qb
  cases hvs:qW s <;> simp_all
  all_goals (first|omega|(rw [ru];simp;omega))
 intro h5 a H
 try have p5:=dF h5
 refine kH H (aZ h5 rfl (Pf h5 rfl (Rm rfl (aZ rfl rfl (Pf rfl rfl (ak K2 rfl ?_))))));clear H K2;intro a H;refine lr H results42 rfl ?_;refine H.rt ⟨aM ?_,rfl⟩
 unfold qb
 cases hvs:qW s <;> simp_all
 all_goals (first|omega|(rw [ru];simp;omega))
def sQ (s:ByteArray):Int:=bO [bL (!qW s) 12,bL (decide (1024 < (s.size:Int))) 10]
theorem AA {G:GH} {b:Nat} {x y:Int} (h:G b=some (.cells #[vi x,vi y] 42 (0,0))):aB G (.sl 1 ([x,y].map fun k=>[li k])) (.slice (some ⟨b,0,none⟩) 2 2) :=
 aB.fC (n:=2) (cap:=2) h rfl (dB _) (show 2≤maxLen by decide) (mF (dB _)) (gy G [x,y])
theorem Ws (G:GH) (w0:World) (hG:Hold G w0) (s:ByteArray) (hs:s.size < 4611686018427387904):Calls prog 190 #[.string s] w0 (bV w0 G fun u G'=>u=vi (sQ s)):=by
 refine eN [(0,_)] func190 rfl ntmps190 rfl rfl hG ?_;intro a H;refine kP H (SR fun _ K1=>ak K1 rfl (SR fun _ K2=>Rm rfl ?_));clear H K1;intro a H;refine s_call E8 H wn rfl (FY _ _ H.ro s hs) rfl ?_;clear H;rintro v4 _ a w ⟨rfl,rfl⟩ - H;refine kH H (Rn rfl ?_);clear H;intro a H;refine s_call kg H wn rfl (ku _ _ H.ro _ 12) rfl ?_;clear H;rintro v6 _ a w ⟨rfl,rfl⟩ - H;refine kH H (Rm rfl (Rv iD rfl (Rc rfl ?_)));clear H;intro a H;refine s_call kg H wn rfl (ku _ _ H.ro _ 10) rfl ?_;clear H;rintro v10 _ a w ⟨rfl,rfl⟩ - H;refine jd qV iO [_,_] [_,_] H wn rfl rfl rfl rfl rfl (by intro i q h;match i,h with|0,h=>exact h|1,h=>exact h|n+2,h=>simp at h) rfl rfl ?_;clear H;intro b11 a w Hu H;obtain ⟨zT,H8,JF,H⟩:=H.eD;refine s_call rY H wn rfl (rZ _ _ H.ro _ _ (AA JF)) rfl ?_;clear H;rintro v12 _ a w ⟨rfl,rfl⟩ - H;exact kH H (ak K2 rfl (LR results190 rfl fun H=>H.rt rfl))
theorem adl (G:GH) (w0:World) (hG:Hold G w0) (s:ByteArray) (hs:s.size < 4611686018427387904):Calls prog 92 #[.string s] w0 (bV w0 G fun u G'=>u=vi (sQ s)∧G=G'):=by
 refine eN [(0,_)] func92 rfl ntmps92 rfl rfl hG ?_;intro a H;refine kP H (SR fun _ K1=>ak K1 rfl (SQ fun _ K2=>SB (SR fun _ K3=>Rm rfl ?_)));clear H K1;intro a H;refine s_call E8 H wn rfl (FY _ _ H.ro s hs) rfl ?_;clear H;rintro v5 _ a w ⟨rfl,rfl⟩ - H;refine kH H (Rn rfl (ak K3 rfl (Cd rfl ?_ ?_))) <;> clear H K3
 ·intro h3 a H
  try have p3:=dT h3
  exact kP H (SR fun _ K4=>ak K4 rfl (LR results92 rfl fun H=>H.rt ⟨ay vi (by unfold sQ;simp_all [bO,bL]),rfl⟩))
 intro h3 a H
 try have p3:=dF h3
 refine kP H (SR fun _ K5=>Rm rfl (Rv iD rfl (Rc rfl (ak K5 rfl (Cd rfl ?_ ?_))))) <;> clear H K5
 ·intro h7 a H
  try have p7:=dT h7
  exact kP H (SR fun _ K6=>ak K6 rfl (LR results92 rfl fun H=>H.rt ⟨ay vi (by unfold sQ;simp_all [bO,bL]),rfl⟩))
 intro h7 a H
 try have p7:=dF h7
 exact kP H (Kc K2 (SR fun _ K7=>ak K7 rfl (LR results92 rfl fun H=>H.rt ⟨ay vi (by unfold sQ;simp_all [bO,bL]),rfl⟩)))
def wW (id before:Int) (fst:Bool):Int:=if id < 1∨1073741824 < id then 18 else if fst=false∧id=before then 7 else if fst=false∧id < before then 6 else 0
theorem Va (G:GH) (w0:World) (hG:Hold G w0) (id before:Int) (fst:Bool):Calls prog 41 #[vi id,vi before,.bool fst] w0 (bV w0 G fun u G'=>u=vi (wW id before fst)∧G=G'):=by
 refine eN [(0,_),(1,_),(2,_)] func41 rfl ntmps41 rfl rfl hG ?_;intro a H;refine kP H (SR fun _ K1=>ak K1 rfl (SQ fun _ K2=>SB (SR fun _ K3=>Rm rfl (Rc rfl (Rm rfl (Sp 10 rfl ?_ ?_)))))) <;> clear H K1
 ·intro h10 a H
  try have sJ:=dT h10
  refine kH H (aT h10 rfl (Pt h10 rfl (ak K3 rfl (Ct rfl rfl (SR fun _ K4=>ak K4 rfl ?_)))));clear H K3 K4;intro a H;refine lr H results41 rfl ?_
  exact H.rt ⟨ay vi (by unfold wW;(repeat' split) <;> first|rfl|(exfalso;simp_all;done)|(exfalso;simp_all;omega)),rfl⟩
 intro h10 a H
 try have sJ:=dF h10
 refine kH H (YM h10 rfl (YC h10 rfl (Pf h10 rfl (ak K3 rfl (Cd rfl ?_ ?_))))) <;> clear H K3
 ·intro h7 a H
  try have p7:=dT h7
  refine kP H (SR fun _ K5=>ak K5 rfl ?_);clear H K5;intro a H;refine lr H results41 rfl ?_
  exact H.rt ⟨ay vi (by unfold wW;(repeat' split) <;> first|rfl|(exfalso;simp_all;done)|(exfalso;simp_all;omega)),rfl⟩
 intro h7 a H
 try have p7:=dF h7
 refine kP H (SR fun _ K6=>Rm rfl (Rn rfl (Rm rfl (Sp 17 rfl ?_ ?_)))) <;> clear H
 ·intro gu a H
  try have mo:=dT gu
  refine kH H (YM gu rfl (YM gu rfl (YC gu rfl (Pt gu rfl (ak K6 rfl (Cd rfl ?_ ?_)))))) <;> clear H K6
  ·intro gT a H
   try have sK:=dT gT
   refine kP H (SR fun _ K7=>ak K7 rfl ?_);clear H K7;intro a H;refine lr H results41 rfl ?_
   exact H.rt ⟨ay vi (by unfold wW;(repeat' split) <;> first|rfl|(exfalso;simp_all;done)|(exfalso;simp_all;omega)),rfl⟩
  intro gT a H
  try have sK:=dF gT
  refine kP H (SR fun _ K8=>Rm rfl (Rn rfl (Rm rfl (Sp 25 rfl ?_ ?_)))) <;> clear H
  ·intro fM a H
   try have p25:=dT fM
   refine kH H (YM fM rfl (YM fM rfl (YC fM rfl (Pt fM rfl (ak K8 rfl (Cd rfl ?_ ?_)))))) <;> clear H K8
   ·intro h22 a H
    try have jv:=dT h22
    refine kP H (SR fun _ K9=>ak K9 rfl ?_);clear H K9;intro a H;refine lr H results41 rfl ?_
    exact H.rt ⟨ay vi (by unfold wW;(repeat' split) <;> first|rfl|(exfalso;simp_all;done)|(exfalso;simp_all;omega)),rfl⟩
   intro h22 a H
   try have jv:=dF h22
   refine kP H (Kc K2 (SR fun _ aU=>ak aU rfl ?_));clear H K2 aU;intro a H;refine lr H results41 rfl ?_
   exact H.rt ⟨ay vi (by unfold wW;(repeat' split) <;> first|rfl|(exfalso;simp_all;done)|(exfalso;simp_all;omega)),rfl⟩
  intro fM a H
  try have p25:=dF fM
  refine kH H (aZ fM rfl (Pf fM rfl (ak K8 rfl (Cf rfl rfl (Kc K2 (SR fun _ bD=>ak bD rfl ?_))))));clear H K8 K2 bD;intro a H;refine lr H results41 rfl ?_
  exact H.rt ⟨ay vi (by unfold wW;(repeat' split) <;> first|rfl|(exfalso;simp_all;done)|(exfalso;simp_all;omega)),rfl⟩
 intro gu a H
 try have mo:=dF gu
 refine kH H (aZ gu rfl (Pf gu rfl (ak K6 rfl (Cf rfl rfl (SR fun _ bE=>Rm rfl (Rn rfl (Rm rfl (Sp 25 rfl ?_ ?_)))))))) <;> clear H K6
 ·intro fM a H
  try have p25:=dT fM
  refine kH H (YM fM rfl (YM fM rfl (YC fM rfl (Pt fM rfl (ak bE rfl (Cd rfl ?_ ?_)))))) <;> clear H bE
  ·intro h22 a H
   try have jv:=dT h22
   refine kP H (SR fun _ bQ=>ak bQ rfl ?_);clear H bQ;intro a H;refine lr H results41 rfl ?_
   exact H.rt ⟨ay vi (by unfold wW;(repeat' split) <;> first|rfl|(exfalso;simp_all;done)|(exfalso;simp_all;omega)),rfl⟩
  intro h22 a H
  try have jv:=dF h22
  refine kP H (Kc K2 (SR fun _ bR=>ak bR rfl ?_));clear H K2 bR;intro a H;refine lr H results41 rfl ?_
  exact H.rt ⟨ay vi (by unfold wW;(repeat' split) <;> first|rfl|(exfalso;simp_all;done)|(exfalso;simp_all;omega)),rfl⟩
 intro fM a H
 try have p25:=dF fM
 refine kH H (aZ fM rfl (Pf fM rfl (ak bE rfl (Cf rfl rfl (Kc K2 (SR fun _ bW=>ak bW rfl ?_))))));clear H bE K2 bW;intro a H;refine lr H results41 rfl ?_
 exact H.rt ⟨ay vi (by unfold wW;(repeat' split) <;> first|rfl|(exfalso;simp_all;done)|(exfalso;simp_all;omega)),rfl⟩
theorem U9 (id:Nat→Int) (i:Nat):wW (id i) (id (i - 1)) (decide (i=0))=kK id i:=by
 unfold wW kK
 (repeat' split) <;> first|rfl|(exfalso;simp_all;done)|(exfalso;simp_all;omega)
def PI (c:Int):Bool:=decide (97≤xP .or .u8 c 32) && decide (xP .or .u8 c 32≤122)
def Iu (c:Int):Bool:=(decide (48≤c) && decide (c≤57)) || decide (c=45) || decide (c=95)
def CO (s:ByteArray) (k:Nat):Bool:=PI (jh s k) || (decide (k≠0) && Iu (jh s k))
def oV (s:ByteArray):Bool:=decide (1≤s.size∧s.size≤40) && (List.range s.size).all (CO s)
theorem Ls (G:GH) (w0:World) (hG:Hold G w0) (s:ByteArray) (hs:s.size < 4611686018427387904):Calls prog 93 #[.string s] w0 (bV w0 G fun u G'=>u=.bool (oV s)∧G=G'):=by
 refine eN [(0,_)] func93 rfl ntmps93 rfl rfl hG ?_;intro a H;refine kP H (SR fun _ K1=>ak K1 rfl (SQ fun _ K2=>SR fun _ K3=>Rm rfl (Rv iD rfl (Rc rfl (Rm rfl (Sp 10 rfl ?_ ?_)))))) <;> clear H K1
 ·intro h10 a H
  try have sJ:=dT h10
  exact kH H (aZ h10 rfl (Pt h10 rfl (Kz K3 (Ct rfl rfl (SR fun _ K4=>ak K4 rfl (LR results93 rfl fun H=>H.rt ⟨aM (by unfold oV;rw [iV (by omega)];rfl),rfl⟩))))))
 intro h10 a H
 try have sJ:=dF h10
 refine kH H (YM h10 rfl ?_);clear H;intro a H;refine BO iD H (wg H rfl rfl h10) rfl rfl ?_;clear H;intro a H;refine kH H (YC h10 rfl (Pf h10 rfl (Kz K3 (Cd rfl ?_ ?_)))) <;> clear H K3
 ·intro gT a H
  try have sK:=dT gT
  exact kP H (SR fun _ K5=>ak K5 rfl (LR results93 rfl fun H=>H.rt ⟨aM (by unfold oV;rw [iV (by omega)];rfl),rfl⟩))
 intro gT a H
 try have sK:=dF gT
 refine kP H (Kc K2 (SQ fun _ K6=>SR fun _ K7=>Rm rfl (Rv iD rfl (Rm rfl (Kz K7 (SB ?_))))));clear H K2 K7;intro a H;skip;refine dV (ι:=Nat) (Tc:=[(0,_),(16,_)]) (Lc:=[]) (fun gh=>[(17,vi gh)]) (fun gh=>[]) (fun gh=>G) (fun gh=>gh≤s.size∧(List.range gh).all (CO s)=true) (fun gh=>s.size - gh) (0) (by exact (H).sub ⟨rfl,rfl,rfl,av⟩) ?_ ?_
 ·exact ⟨fQ _,rfl⟩
 clear H;intro k a w hI H;obtain ⟨hk,hall⟩:=hI;dsimp only [lca,aO] at H;refine kP H (SR fun _ K8=>Rc rfl (Kz K8 (SQ fun _ K9=>Cd rfl ?_ ?_))) <;> clear H K8
 ·intro h18 a H
  try have tQ:=dT h18
  have hk2:k < s.size:=by omega
  refine kP H (Kc K9 (SQ fun _ aU=>SB (SR fun _ bD=>Rm rfl (ak bD rfl (SR fun _ bE=>Rm rfl (Rm rfl ?_))))));clear H K9 bD;intro a H;refine qw k iD H wn rfl rfl rfl (by omega) rfl ?_;clear H;intro a H;rw [← nV] at H;refine Qd rfl H wn rfl rfl rfl ?_;clear H;intro a H;refine kH H (ak bE rfl ?_);clear H bE;intro a H;refine oG (ι:=Bool) (Tc:=[(0,_),(3,_),(16,_),(17,_)]) (Lc:=[]) (fun gh=>[(5,.bool gh)]) (fun gh=>[]) (fun gh=>G) (fun gh=>gh=PI (jh s k)) (by exact (H).sub ⟨rfl,rfl,rfl,rfl,av⟩) ?_ ?_
  ·skip;refine kP H (SC (Rm rfl (Rc rfl (Rm rfl (Sp 26 rfl ?_ ?_))))) <;> clear H
   ·intro fE a H
    try have p26:=dT fE
    refine kH H (YM fE rfl (YC fE rfl (Pt fE rfl (Ra rfl ?_))));clear H;intro a H;refine aH ?_;refine ⟨_,by exact (H).sub ⟨rfl,rfl,rfl,rfl,rfl,av⟩,?_⟩
    unfold PI;first|(simp_all;done)|(simp_all;omega)
   intro fE a H
   try have p26:=dF fE
   refine kH H (aT fE rfl (Pf fE rfl (Ra rfl ?_)));clear H;intro a H;refine aH ?_;refine ⟨_,by exact (H).sub ⟨rfl,rfl,rfl,rfl,rfl,av⟩,?_⟩
   unfold PI;first|(simp_all;done)|(simp_all;omega)
  clear H;intro lt a w hI H;have hlt:=hI;dsimp only [lca,aO] at H;refine oG (ι:=Bool) (Tc:=[(0,_),(3,_),(5,_),(16,_),(17,_)]) (Lc:=[]) (fun gh=>[(6,.bool gh)]) (fun gh=>[]) (fun gh=>G) (fun gh=>gh=Iu (jh s k)) (by exact (H).sub ⟨rfl,rfl,rfl,rfl,rfl,av⟩) ?_ ?_
  ·skip;refine kP H (SC (Rm rfl (Rm rfl ?_)));clear H;intro a H;refine qw k iD H wn rfl rfl rfl (by omega) rfl ?_;clear H;intro a H;rw [← nV] at H;refine kH H (Rc rfl (Rm rfl (Sp 34 rfl ?_ ?_))) <;> clear H
   ·intro dZ a H
    try have p34:=dT dZ
    refine kH H (YM dZ rfl (YM dZ rfl ?_));clear H;intro a H;refine qw k iD H (wg H rfl rfl dZ) rfl rfl rfl (by omega) rfl ?_;clear H;intro a H;rw [← nV] at H;refine kH H (YC dZ rfl (Pt dZ rfl (Rm rfl (Sp 40 rfl ?_ ?_)))) <;> clear H
    ·intro qJ a H
     try have p40:=dT qJ
     refine kH H (aT qJ rfl (aT qJ rfl (Pt qJ rfl (Rm rfl (aT rfl rfl (aT rfl rfl (Pt rfl rfl (Ra rfl ?_))))))));clear H;intro a H;refine aH ?_;refine ⟨_,by exact (H).sub ⟨rfl,rfl,rfl,rfl,rfl,rfl,av⟩,?_⟩
     unfold Iu;first|(simp_all;done)|(simp_all;omega)
    intro qJ a H
    try have p40:=dF qJ
    refine kH H (YM qJ rfl (YM qJ rfl ?_));clear H;intro a H;refine qw k iD H (wg H rfl rfl qJ) rfl rfl rfl (by omega) rfl ?_;clear H;intro a H;rw [← nV] at H;refine kH H (YC qJ rfl (Pf qJ rfl (Rm rfl (Sp 46 rfl ?_ ?_)))) <;> clear H
    ·intro h46 a H
     try have p46:=dT h46
     refine kH H (aT h46 rfl (aT h46 rfl (Pt h46 rfl (Ra rfl ?_))));clear H;intro a H;refine aH ?_;refine ⟨_,by exact (H).sub ⟨rfl,rfl,rfl,rfl,rfl,rfl,av⟩,?_⟩
     unfold Iu;first|(simp_all;done)|(simp_all;omega)
    intro h46 a H
    try have p46:=dF h46
    refine kH H (YM h46 rfl (YM h46 rfl ?_));clear H;intro a H;refine qw k iD H (wg H rfl rfl h46) rfl rfl rfl (by omega) rfl ?_;clear H;intro a H;rw [← nV] at H;refine kH H (YC h46 rfl (Pf h46 rfl (Ra rfl ?_)));clear H;intro a H;refine aH ?_;refine ⟨_,by exact (H).sub ⟨rfl,rfl,rfl,rfl,rfl,rfl,av⟩,?_⟩
    unfold Iu;first|(simp_all;done)|(simp_all;omega)
   intro dZ a H
   try have p34:=dF dZ
   refine kH H (aT dZ rfl (aT dZ rfl (Pf dZ rfl (Rm rfl ?_))));clear H;intro a H;(iterate 2 refine En H (wg H rfl rfl rfl) rfl rfl ?_;clear H;intro a H);refine qw k iD H (wg H rfl rfl rfl) rfl rfl rfl (by omega) rfl ?_;clear H;intro a H;rw [← nV] at H;refine FP H (wg H rfl rfl rfl) rfl rfl rfl rfl ?_;clear H;intro a H;refine kH H (Pf rfl rfl (Rm rfl (Sp 46 rfl ?_ ?_))) <;> clear H
   ·intro h46 a H
    try have p46:=dT h46
    refine kH H (aT h46 rfl (aT h46 rfl (Pt h46 rfl (Ra rfl ?_))));clear H;intro a H;refine aH ?_;refine ⟨_,by exact (H).sub ⟨rfl,rfl,rfl,rfl,rfl,rfl,av⟩,?_⟩
    unfold Iu;first|(simp_all;done)|(simp_all;omega)
   intro h46 a H
   try have p46:=dF h46
   refine kH H (YM h46 rfl (YM h46 rfl ?_));clear H;intro a H;refine qw k iD H (wg H rfl rfl h46) rfl rfl rfl (by omega) rfl ?_;clear H;intro a H;rw [← nV] at H;refine kH H (YC h46 rfl (Pf h46 rfl (Ra rfl ?_)));clear H;intro a H;refine aH ?_;refine ⟨_,by exact (H).sub ⟨rfl,rfl,rfl,rfl,rfl,rfl,av⟩,?_⟩
   unfold Iu;first|(simp_all;done)|(simp_all;omega)
  clear H;intro ot a w hI H;have hot:=hI;dsimp only [lca,aO] at H;refine kP H (SR fun _ bQ=>Rm rfl (Rn rfl (Rm rfl (Sp 54 rfl ?_ ?_)))) <;> clear H
  ·intro iI a H
   try have p54:=dT iI
   refine kH H (YM iI rfl (YC iI rfl (YM iI rfl (Sp 57 rfl ?_ ?_)))) <;> clear H
   ·intro h57 a H
    try have p57:=dT h57
    refine kH H (aT h57 rfl (PT iI h57 rfl (Pt iI rfl (Kz bQ (Ct rfl rfl (SR fun _ bR=>ak bR rfl ?_))))));clear H bQ bR;intro a H;refine lr H results93 rfl ?_
    first
     | exact H.rt ⟨aM (by
       unfold oV
       rw [show k=s.size by omega] at hall
       rw [hall,iq (by omega)];rfl),rfl⟩
     | exact H.rt ⟨aM (by
       unfold oV
       rw [show (List.range s.size).all (CO s)=false from List.all_eq_false.2 ⟨k,by simpa using hk2,by unfold CO;simp_all⟩,Bool.and_false]),rfl⟩
   intro h57 a H
   try have p57:=dF h57
   refine kH H (YM h57 rfl (YN h57 rfl (PF iI h57 rfl (Pt iI rfl (Kz bQ (Cd rfl ?_ ?_)))))) <;> clear H bQ
   ·intro pE a H
    try have p61:=dT pE
    refine kP H (SR fun _ bW=>ak bW rfl ?_);clear H bW;intro a H;refine lr H results93 rfl ?_
    first
     | exact H.rt ⟨aM (by
       unfold oV
       rw [show k=s.size by omega] at hall
       rw [hall,iq (by omega)];rfl),rfl⟩
     | exact H.rt ⟨aM (by
       unfold oV
       rw [show (List.range s.size).all (CO s)=false from List.all_eq_false.2 ⟨k,by simpa using hk2,by unfold CO;simp_all⟩,Bool.and_false]),rfl⟩
   intro pE a H
   try have p61:=dF pE
   refine kP H (Kc aU (SC (Rd rfl (Rm rfl ?_))));clear H aU;intro a H;refine aH ?_;refine cB ((k+1)) (by exact (H).sub ⟨rfl,rfl,rfl,av⟩) ?_ ?_
   ·exact ⟨by omega,by rw [List.range_succ,List.all_append,hall];simp [CO];simp_all⟩
   first|omega|(dsimp only;omega)
  intro iI a H
  try have p54:=dF iI
  refine kH H (aZ iI rfl (Ku rfl (Ku rfl (Ks iI rfl (Pf iI rfl (Kz bQ (Cf rfl rfl (Kc aU (SC (Rd rfl (Rm rfl ?_)))))))))));clear H bQ aU;intro a H;refine aH ?_;refine cB ((k+1)) (by exact (H).sub ⟨rfl,rfl,rfl,av⟩) ?_ ?_
  ·exact ⟨by omega,by rw [List.range_succ,List.all_append,hall];simp [CO];simp_all⟩
  first|omega|(dsimp only;omega)
 intro h18 a H
 try have tQ:=dF h18
 refine dJ ?_;refine K6 _ _ ?_;clear K6;refine kP H (SR fun _ cK=>ak cK rfl ?_);clear H cK;intro a H;refine lr H results93 rfl ?_
 first
  | exact H.rt ⟨aM (by
    unfold oV
    rw [show k=s.size by omega] at hall
    rw [hall,iq (by omega)];rfl),rfl⟩
  | exact H.rt ⟨aM (by
    unfold oV
    rw [show (List.range s.size).all (CO s)=false from List.all_eq_false.2 ⟨k,by simpa using hk2,by unfold CO;simp_all⟩,Bool.and_false]),rfl⟩
end
section
open Go.RowKit
section
variable {N:Nat} {D:List Deferred} {w0:World} {F:Nat→Prop} {G0 G:GH} {L:OL} {T:List (Nat × aj)}
variable {r:Option Nat} {P:Program} {ops:Array Oper} {Q:Exit→Act→World→Prop} {rest:List Oper} {a:Act} {w:World}
variable {d:Nat} {ty:TypeId} {pos:String} {aS:Array Edge} {g:Option (Nat × Bool)}
end
end
section
open Go.RowKit
theorem amw:liesAt prog prog.depth 289 (7 / prog.cellsOf 289) 2 287 1=true:=by kernel_rfl
theorem aht:∀ args w,(callFunc 241 args).run prog w=.ok (.enter 241 args) w:=enters func241 rfl (by kernel_rfl)
theorem Qo:Ty prog 5 1 1 [.int .u8 0] false:=⟨by kernel_rfl,by kernel_rfl⟩
abbrev iL (b:Nat) (s:ByteArray) (i:Int) (p v q:aj) (pl e:Int):Nat × Obj:=(b,.cells #[.string s,vi i,p,v,q,vi pl,vi e] 289 (0,0))
theorem aoY (G:GH) (L:OL) (w0:World) (b:Nat) (s:ByteArray) (i:Int) (A:Option Addr) (n c:Nat) (B:Option Addr) (m d:Nat) (pl e:Int) (hO:iT G (iL b s i (.pointer none) (.slice A n c) (.slice B m d) pl e :: L) w0) :
  Calls prog 241 #[(aP b 2)] w0 (iE w0 G (iL b s i (.pointer none) (.slice A n c) (.slice B m d) pl e :: L) fun u G' L'=>L'=iL b s i (aP b 2) (.slice A n c) (.slice B m d) pl e :: L∧G'=G):=by
 refine kS (N:=20) (T:=[(0,_)]) func241 rfl ntmps241 rfl rfl hO ?_;intro a H;refine kP H (SR fun _ K1=>Rm rfl (Rk rfl (aR LU Na 0 rfl rfl ?_)));clear H;intro a H;refine acH Ng H wn rfl rfl ?_;clear H;intro a H;refine K1 _ _ ?_;clear K1;refine qG H rfl ?_ ?_
 ·intro h6
  refine kP H (SC (Rm rfl (Rm rfl ?_)));clear H;intro a H;refine aoV Ng adw V7 H wn rfl 0 rfl rfl rfl ?_;clear H;intro a H;refine aoO (xs:=[.tmp 9]) (ani _) H wn rfl rfl ?_;clear H;intro a H;refine aoL adw Ng V7 H wn rfl 0 rfl amw rfl ?_;clear H;intro a H;refine kH H (Rk rfl (Rf LU rfl ?_));clear H;intro a H;refine bT Na 0 (vs:=[_]) _ H wn rfl rfl rfl rfl rfl rfl rfl rfl ?_;clear H;intro w H;dsimp only [List.set,setRow] at H;refine aH ?_;refine (leave0 H results241 ?_).2;exact H.hp.gB ⟨rfl,rfl⟩
 intro h6
 exact absurd h6 (by decide)
theorem aoZ (G:GH) (L:OL) (w0:World) (b:Nat) (s:ByteArray) (i:Int) (A:Option Addr) (n c:Nat) (B:Option Addr) (m d:Nat) (pl e:Int) (hO:iT G (iL b s i (aP b 2) (.slice A n c) (.slice B m d) pl e :: L) w0) :
  Calls prog 241 #[(aP b 2)] w0 (iE w0 G (iL b s i (aP b 2) (.slice A n c) (.slice B m d) pl e :: L) fun u G' L'=>L'=iL b s i (aP b 2) (.slice A n c) (.slice B m d) pl e :: L∧G'=G):=by
 refine kS (N:=20) (T:=[(0,_)]) func241 rfl ntmps241 rfl rfl hO ?_;intro a H;refine kP H (SR fun _ K1=>Rm rfl (Rk rfl (aR LU Na 0 rfl rfl ?_)));clear H;intro a H;refine acH Ng H wn rfl rfl ?_;clear H;intro a H;refine K1 _ _ ?_;clear K1;refine qG H rfl ?_ ?_
 ·intro h6
  exact absurd h6 (by simp)
 intro h6
 refine kP H (SR fun _ K2=>Rm rfl (Rk rfl (aR LU Na 0 rfl rfl (Rm rfl ?_))));clear H;intro a H;refine aoN Ng V7 H wn rfl rfl rfl ?_;clear H;intro a H;refine K2 _ _ ?_;clear K2;refine qG H rfl ?_ ?_
 ·intro h19
  exact absurd h19 (by decide)
 intro h19
 refine fT ?_;refine (leave0 H results241 ?_).2;exact H.hp.gB ⟨rfl,rfl⟩
theorem apa (G:GH) (L:OL) (w0:World) (b:Nat) (s:ByteArray) (i:Int) (p:aj) (A:Option Addr) (n c:Nat) (B:Option Addr) (m d:Nat) (pl e:Int) (hp:p=.pointer none∨p=(aP b 2)) (hO:iT G (iL b s i p (.slice A n c) (.slice B m d) pl e :: L) w0) :
  Calls prog 241 #[(aP b 2)] w0 (iE w0 G (iL b s i p (.slice A n c) (.slice B m d) pl e :: L) fun u G' L'=>L'=iL b s i (aP b 2) (.slice A n c) (.slice B m d) pl e :: L∧G'=G):=by
 rcases hp with rfl|rfl
 ·exact aoY G L w0 b s i A n c B m d pl e hO
 exact aoZ G L w0 b s i A n c B m d pl e hO
theorem adT (G:GH) (Lp Lo:OL) (w0:World) (b:Nat) (s:ByteArray) (i:Int) (p v:aj) (B:Option Addr) (m d:Nat) (pl e:Int) (n:Nat) (xs:List aj) (c:Int) (hp:p=.pointer none∨p=(aP b 2)) (hO:iT G (iL b s i p v (.slice B m d) pl e :: (Lp++Lo)) w0) (hrow:gJ 5 1 v n xs Lo) (hn:n≤4294967296) :
  Calls prog 235 #[(aP b 2),.int .u8 c] w0 (iE w0 G (iL b s i p v (.slice B m d) pl e :: (Lp++Lo)) fun u G' L'=>∃ v' jR,L'=iL b s i (aP b 2) v' (.slice B m d) pl e :: (Lp++jR)∧gJ 5 1 v' (n+1) (xs++[.int .u8 c]) jR∧G'=G):=by
 have hml:maxLen=9223372036854775807:=rfl;obtain ⟨A,c0,rfl,-,-⟩:=hrow.shape;obtain ⟨Lt,qL⟩:∃ x,x=Lp++Lo:=⟨_,rfl⟩;rw [← qL] at hO ⊢;refine kS (N:=17) (T:=[(0,_),(1,_)]) func235 rfl ntmps235 rfl rfl hO ?_;intro a H;refine kP H (SR fun _ K1=>ak K1 rfl (SR fun _ K2=>Rm rfl ?_));clear H K1;intro a H;refine gW aht (Li:=[]) (L:=iL b s i p _ (.slice B m d) pl e :: Lt) H wn rfl (apa _ _ _ b s i p A n c0 B m d pl e hp (Hp.owns (Li:=[]) H.hp)) rfl ?_;clear H;rintro v6 _ L6 a w ⟨rfl,rfl⟩ Eb H;dsimp only [List.nil_append] at H;refine K2 _ _ ?_;clear K2;refine kP H (SR fun _ K3=>Rm rfl (Rm rfl (Rk rfl (aR Js Ky 0 rfl rfl (Rm rfl ?_)))));clear H;intro a H;refine jd IK Qo [_] [_] H wn rfl rfl rfl rfl rfl (by intro i q h;match i,h with|0,h=>exact h|n+1,h=>simp at h) rfl rfl ?_;clear H;intro b13 a w OO H;subst qL;have H:=St.un (A:=[_,_]) (B:=Lp) (C:=Lo) H;refine Aw (Li:=[_,_]++Lp) (Lo:=Lo) (news:=[.int .u8 c]) IK Qo rfl rfl H wn rfl rfl hrow rfl (H.hp.fG 0 rfl rfl) rfl (by omega) (by omega) rfl ?_;clear H;intro v14 aer a w aaK H;obtain ⟨A14,c14,rfl,-,-⟩:=aaK.shape;have H:=H.assoc;dsimp only [lca,aO] at H;refine kH H (Rk rfl (Rf Js rfl ?_));clear H;intro a H;refine bT Ky 1 (vs:=[_]) _ H wn rfl rfl rfl rfl rfl rfl rfl rfl ?_;clear H;intro w H;dsimp only [List.set,setRow] at H;refine K3 _ _ ?_;clear K3;exact kP H (SR fun _ K4=>ak K4 rfl (LR results235 rfl fun H=>H.hp.bU (L':=iL b s i _ _ _ pl e :: (Lp++aer)) (Dq _ _) ⟨_,_,rfl,aaK,rfl⟩))
theorem apt (G:GH) (L:OL) (w0:World) (b:Nat) (s:ByteArray) (i:Int) (p:aj) (A:Option Addr) (n c:Nat) (B:Option Addr) (m d:Nat) (pl e:Int) (hO:iT G (iL b s i p (.slice A n c) (.slice B m d) pl e :: L) w0) :
  Calls prog 242 #[(aP b 2)] w0 (iE w0 G (iL b s i p (.slice A n c) (.slice B m d) pl e :: L) fun u G' L'=>u=vi n∧L'=iL b s i p (.slice A n c) (.slice B m d) pl e :: L∧G'=G):=by
 refine kS (N:=8) (T:=[(0,_)]) func242 rfl ntmps242 rfl rfl hO ?_;intro a H;exact kP H (SR fun _ K1=>ak K1 rfl (SR fun _ K2=>Rm rfl (Rk rfl (aR Js Ky 0 rfl rfl (Rl IK rfl (ak K2 rfl (LR results242 rfl fun H=>H.hp.gB ⟨rfl,rfl,rfl⟩)))))))
theorem apK (G:GH) (L:OL) (w0:World) (b:Nat) (s:ByteArray) (i:Int) (p:aj) (A:Option Addr) (n c:Nat) (B:Option Addr) (m d:Nat) (pl e:Int) (hO:iT G (iL b s i p (.slice A n c) (.slice B m d) pl e :: L) w0) :
  Calls prog 244 #[(aP b 2)] w0 (iE w0 G (iL b s i p (.slice A n c) (.slice B m d) pl e :: L) fun u G' L'=>L'=iL b s i (.pointer none) (.slice none 0 0) (.slice B m d) pl e :: L∧G'=G):=by
 refine kS (N:=8) (T:=[(0,_)]) func244 rfl ntmps244 rfl rfl hO ?_;intro a H;refine kP H (SR fun _ K1=>Rm rfl (Rk rfl (Rf LU rfl ?_)));clear H;intro a H;refine bT Na 0 (vs:=[_]) _ H wn rfl rfl rfl rfl rfl rfl rfl rfl ?_;clear H;intro w H;dsimp only [List.set,setRow] at H;refine K1 _ _ ?_;clear K1;refine kP H (SC (Rm rfl (Rk rfl (Rf Js rfl ?_))));clear H;intro a H;refine bT Ky 0 (vs:=[_]) _ H wn rfl rfl rfl rfl rfl rfl rfl rfl ?_;clear H;intro w H;dsimp only [List.set,setRow] at H;refine aH ?_;refine (leave0 H results244 ?_).2;exact H.hp.gB ⟨rfl,rfl⟩
theorem apL (G:GH) (Lp Lo:OL) (w0:World) (b:Nat) (s:ByteArray) (i:Int) (p v:aj) (B:Option Addr) (m d:Nat) (pl e:Int) (l:List UInt8) (hO:iT G (iL b s i p v (.slice B m d) pl e :: (Lp++Lo)) w0) (hrow:gJ 5 1 v l.length (Lib.byteCells l) Lo) (h0:l≠[]) :
  Calls prog 243 #[(aP b 2)] w0 (iE w0 G (iL b s i p v (.slice B m d) pl e :: (Lp++Lo)) fun u G' L'=>u=.string ⟨l.toArray⟩∧L'=iL b s i p v (.slice B m d) pl e :: Lp):=by
 rcases hrow.2 with ⟨-,h,-⟩|⟨b2,cap,cur,rfl,rfl,hc1,hc2,hc3,hc4⟩
 ·exact absurd (List.eq_nil_of_length_eq_zero h) h0
 have hl0:l.length≠0:=fun h=>h0 (List.eq_nil_of_length_eq_zero h);have hml:maxLen=9223372036854775807:=rfl;obtain ⟨Lt,qL⟩:∃ x,x=Lp++[(b2,Obj.cells cur 5 (0,0))]:=⟨_,rfl⟩;rw [← qL] at hO ⊢;refine kS (N:=14) (T:=[(0,_)]) func243 rfl ntmps243 rfl rfl hO ?_;intro a H;refine kP H (SR fun _ K1=>ak K1 rfl (SQ fun _ K2=>?_));clear H K1;intro a H;have H:=H.sub (T':=[(0,_)]) ⟨rfl,av⟩;refine dI hmx [[],[0],[0,1],[0,1,2],(ra 0 4),[],[5],[5,6],[5,6,7],(ra 5 4),(ra 0 10),(ra 0 11)] [10,11] (by kernel_rfl) [_,_,_,.slice (some ⟨b2,0,none⟩) l.length cap,(aP b2 0),_,_,_,.slice (some ⟨b2,0,none⟩) l.length cap,_] H (aI (Z0 rfl (Rm rfl)) (Z1 0 3 rfl (Rk rfl)) (Z1 1 4 rfl (Rf Js rfl)) (Z1 2 5 rfl (Ro Ky 0 rfl)) (aI ?_ (Z0 rfl (Rm rfl)) (Z1 5 8 rfl (Rk rfl)) (Z1 6 9 rfl (Rf Js rfl)) (aI (Z1 7 10 rfl (Ro Ky 0 rfl)) (Z1 8 11 rfl (Rl IK rfl)) (cZ rfl) (cZ rfl) dQ))) ?_
 ·refine fq 3 6 rfl rfl fun _ a w G1 hG HT H fin=>?_;refine aoR H wn rfl (by omega) rfl ?_;clear H;intro a H;exact fin H iJ rfl
 clear H;intro a w G sH H hv;have H:=H.bC (hv 4 7 rfl rfl) rfl;have H:=H.bC (hv 9 12 rfl rfl) rfl;clear hv;subst qL;have H:=H.perm (List.Perm.cons _ qZ);dsimp only [lca,aO] at H;refine aoW (i:=1) l aqb afx h0 (by omega) H wn rfl rfl rfl (by rw [← hc4,Nat.mul_one]) rfl ?_;clear H;intro fz a w H;dsimp only [List.set] at H;refine kH H (Ra rfl ?_);clear H;intro a H;refine aH ⟨rfl,?_⟩;refine K2 _ _ ?_;clear K2;refine lr H results243 rfl ?_;exact H.hp.bU (L':=iL b s i _ _ _ pl e :: Lp) (List.Sublist.cons_cons _ (Dq _ _)) ⟨rfl,rfl⟩
end
section
open Go.RowKit
theorem ahu:∀ args w,(callFunc 242 args).run prog w=.ok (.enter 242 args) w:=enters func242 rfl (by kernel_rfl)
theorem M9:Ty prog 253 1 24 [.slice none 0 0] false:=⟨by kernel_rfl,by kernel_rfl⟩
theorem ahv:∀ args w,(callFunc 243 args).run prog w=.ok (.enter 243 args) w:=enters func243 rfl (by kernel_rfl)
theorem KC:prog.underlying 253=some (.slice 258):=by kernel_rfl
theorem Kw:Ty prog 258 3 32 [.string ⟨#[]⟩,.int .i64 0,.bool false] true:=⟨by kernel_rfl,by kernel_rfl⟩
theorem ahw:∀ args w,(callFunc 244 args).run prog w=.ok (.enter 244 args) w:=enters func244 rfl (by kernel_rfl)
theorem LV:dL prog 289 2 2:=⟨by kernel_rfl⟩
theorem LW:dL prog 289 3 4:=⟨by kernel_rfl⟩
theorem acZ:ug prog 258 [(0,1),(1,1),(2,1)] [.string ⟨#[]⟩,.int .i64 0,.bool false]:=⟨by kernel_rfl,by kernel_rfl⟩
theorem RO:∀ args w,(callFunc 236 args).run prog w=.ok (.enter 236 args) w:=enters func236 rfl (by kernel_rfl)
theorem Oo:dL prog 289 4 5:=⟨by kernel_rfl⟩
structure jS where
 lit:ByteArray
 level:Int
 plain:Bool
def jS.dat (x:jS):List Dat:=[.lf (.string x.lit),li x.level,.lf (.bool x.plain)]
abbrev jS.cells (x:jS):List aj:=[.string x.lit,vi x.level,.bool x.plain]
theorem abH (G:GH) (x:jS):bM G x.dat x.cells:=by
 simp only [jS.dat,jS.cells,bM]
 exact ⟨_,_,rfl,by simp [aB,Value.oneCell'],_,_,rfl,by simp [aB,Value.oneCell'],_,_,rfl,by simp [aB,Value.oneCell'],rfl⟩
theorem abG {G:GH} {x:jS} {cs:List aj} (h:bM G x.dat cs):cs=x.cells:=by
 simp only [jS.dat,bM,aB] at h
 obtain ⟨_,_,rfl,⟨rfl,_⟩,_,_,rfl,⟨rfl,_⟩,_,_,rfl,⟨rfl,_⟩,rfl⟩:=h
 rfl
def FH (l:List jS):List aj:=(l.map jS.cells).flatten
theorem abF (l:List jS) (x:jS):FH (l++[x])=FH l++x.cells:=by simp [FH]
structure Cc (b:Nat) (lit:List UInt8) (parts:List jS) (p v q:aj) (Lp Lo:OL):Prop where
 ptr:p=.pointer none∨p=(aP b 2)
 buf:gJ 5 1 v lit.length (Lib.byteCells lit) Lo
 prt:gJ 258 3 q parts.length (FH parts) Lp
def wH (lit:List UInt8) (parts:List jS):List jS:=if lit=[] then parts else parts++[⟨⟨lit.toArray⟩,0,false⟩]
set_option maxHeartbeats 1000000 in
theorem SA (G:GH) (Lp Lo:OL) (w0:World) (b:Nat) (s:ByteArray) (i:Int) (p v q:aj) (pl e:Int) (lit:List UInt8) (parts:List jS) (hR:Cc b lit parts p v q Lp Lo) (hO:iT G (iL b s i p v q pl e :: (Lp++Lo)) w0) (hl:lit.length≤4294967296) (hp:parts.length≤4294967296) :
  Calls prog 236 #[(aP b 0)] w0 (iE w0 G (iL b s i p v q pl e :: (Lp++Lo)) fun u G' L'=>∃ p' v' q' rT jR,L'=iL b s i p' v' q' pl e :: (rT++jR)∧Cc b [] (wH lit parts) p' v' q' rT jR):=by
 obtain ⟨aaA,hbuf,O7⟩:=hR;have hml:maxLen=9223372036854775807:=rfl;obtain ⟨A,c,rfl,aaW,aaX⟩:=hbuf.shape;obtain ⟨B,d,rfl,aaB,aaC⟩:=O7.shape;obtain ⟨Lt,qL⟩:∃ x,x=Lp++Lo:=⟨_,rfl⟩;rw [← qL] at hO ⊢;refine kS (N:=25) (T:=[(0,_)]) func236 rfl ntmps236 rfl rfl hO ?_;intro a H;refine kP H (SR fun _ K1=>Rm rfl (Rk rfl (Rf LV rfl ?_)));clear H;intro a H;refine gW ahu (Li:=[]) (L:=iL b s i p (.slice A lit.length c) (.slice B parts.length d) pl e :: Lt) H wn rfl (apt _ _ _ b s i p A lit.length c B parts.length d pl e (Hp.owns (Li:=[]) H.hp)) rfl ?_;clear H;rintro v5 _ L5 a w ⟨rfl,rfl,rfl⟩ hm5 H;dsimp only [List.nil_append] at H;refine kH H (Rc rfl (Kz K1 (Cd rfl ?_ ?_))) <;> clear H K1
 ·intro h6 a H
  try have p6:=dT h6
  have hne:lit≠[]:=fun e=>by rw [e] at p6;simp at p6
  subst qL;refine aN (fun _ K2=>?_)
  have CB:∀ (dD:Nat) (jq:(Option Addr × Nat) × OL) (fU:Nat) (v:aj) (G G':GH),(∀ k o,G k=some o→G' k=some o)→(fun (dD:Nat) (jq:(Option Addr × Nat) × OL) (fU:Nat) (v:aj) (G:GH)=>match fU with|0=>v=(aP b 0)|1=>v=(aP b 0)|2=>v=(aP b 0)|3=>v=(aP b 4)|4=>v=.slice B parts.length d|5=>v=(aP b 0)|6=>v=(aP b 0)|7=>v=(aP b 2)|8=>v=.string ⟨lit.toArray⟩|9=>v=.agg (jS.cells ⟨⟨lit.toArray⟩,0,false⟩).toArray|10=>v=.slice (some ⟨dD,0,none⟩) 1 1|11=>v=.slice jq.1.1 (parts.length+1) jq.1.2∧gJ 258 3 v (parts.length+1) (FH (parts++[⟨⟨lit.toArray⟩,0,false⟩])) jq.2|_=>True) dD jq fU v G→(fun (dD:Nat) (jq:(Option Addr × Nat) × OL) (fU:Nat) (v:aj) (G:GH)=>match fU with|0=>v=(aP b 0)|1=>v=(aP b 0)|2=>v=(aP b 0)|3=>v=(aP b 4)|4=>v=.slice B parts.length d|5=>v=(aP b 0)|6=>v=(aP b 0)|7=>v=(aP b 2)|8=>v=.string ⟨lit.toArray⟩|9=>v=.agg (jS.cells ⟨⟨lit.toArray⟩,0,false⟩).toArray|10=>v=.slice (some ⟨dD,0,none⟩) 1 1|11=>v=.slice jq.1.1 (parts.length+1) jq.1.2∧gJ 258 3 v (parts.length+1) (FH (parts++[⟨⟨lit.toArray⟩,0,false⟩])) jq.2|_=>True) dD jq fU v G':=by
   intro dD jq fU v G G' hm h
   match fU,h with
   | 0,h=>exact h
   | 1,h=>exact h
   | 2,h=>exact h
   | 3,h=>exact h
   | 4,h=>exact h
   | 5,h=>exact h
   | 6,h=>exact h
   | 7,h=>exact h
   | 8,h=>exact h
   | 9,h=>exact h
   | 10,h=>exact h
   | 11,h=>exact h
   | 12,h=>exact trivial
   | 13,h=>exact trivial
   | 14,h=>exact trivial
   | _+15,h=>exact trivial
  refine afg (κ:=(Option Addr × Nat) × OL) (((none,0),[])) (hmx) [[],[],[1],[1,2],[1,2,3],[],[5],[5,6],[5,6,7],(ra 5 4),(ra 5 5),(ra 1 10),(ra 0 12),(ra 0 13),(ra 0 14)] [12,13,14] (by kernel_rfl) (by kernel_rfl) 8 10 11 (by decide) (by decide) (by decide) (by decide) (by decide) (by decide) (by decide) (by decide) (by decide) [iL b s i p (.slice A lit.length c) (.slice B parts.length d) pl e] (iL b s i p (.slice A lit.length c) (.slice B parts.length d) pl e :: Lp) (.cells (jS.cells ⟨⟨lit.toArray⟩,0,false⟩).toArray 258 (0,0)) (fun b_ k_=>(b_,.cells (jS.cells ⟨⟨lit.toArray⟩,0,false⟩).toArray 258 (0,0)) :: iL b s i p (.slice A lit.length c) (.slice B parts.length d) pl e :: k_.2) (fun x hx=>by rw [um.1 hx];exact jg) (fun x hx=>by rw [um.1 hx];exact jg) (fun _ _ x hx=>by rw [um.1 hx];exact sW _ jg) (fun (dD:Nat) (jq:(Option Addr × Nat) × OL) (fU:Nat) (v:aj) (G:GH)=>match fU with|0=>v=(aP b 0)|1=>v=(aP b 0)|2=>v=(aP b 0)|3=>v=(aP b 4)|4=>v=.slice B parts.length d|5=>v=(aP b 0)|6=>v=(aP b 0)|7=>v=(aP b 2)|8=>v=.string ⟨lit.toArray⟩|9=>v=.agg (jS.cells ⟨⟨lit.toArray⟩,0,false⟩).toArray|10=>v=.slice (some ⟨dD,0,none⟩) 1 1|11=>v=.slice jq.1.1 (parts.length+1) jq.1.2∧gJ 258 3 v (parts.length+1) (FH (parts++[⟨⟨lit.toArray⟩,0,false⟩])) jq.2|_=>True) (fun b b' k i v G hi hc h=>by match i,hi,hc,h with|0,_,_,h=>exact h|1,_,_,h=>exact h|2,_,_,h=>exact h|3,_,_,h=>exact h|4,_,_,h=>exact h|5,_,_,h=>exact h|6,_,_,h=>exact h|7,_,_,h=>exact h|8,_,_,h=>exact h|9,_,_,h=>exact h|10,hi,_,_=>exact absurd hi (by decide)|11,_,hc,_=>exact absurd hc (by decide)|12,_,hc,_=>exact absurd hc (by decide)|13,_,hc,_=>exact absurd hc (by decide)|14,_,hc,_=>exact absurd hc (by decide)|_+15,_,_,_=>exact trivial) (fun b k k' i v G hi hc h=>by match i,hi,hc,h with|0,_,_,h=>exact h|1,_,_,h=>exact h|2,_,_,h=>exact h|3,_,_,h=>exact h|4,_,_,h=>exact h|5,_,_,h=>exact h|6,_,_,h=>exact h|7,_,_,h=>exact h|8,_,_,h=>exact h|9,_,_,h=>exact h|10,_,_,h=>exact h|11,hi,_,_=>exact absurd hi (by decide)|12,_,hc,_=>exact absurd hc (by decide)|13,_,hc,_=>exact absurd hc (by decide)|14,_,hc,_=>exact absurd hc (by decide)|_+15,_,_,_=>exact trivial) H ?_ ?_ ?_ ?_ ?_ (by kernel_rfl) (by kernel_rfl)
  ·clear H;refine aI ?_ ?_ ?_ ?_ (aI ?_ ?_ ?_ ?_ (aI ?_ ?_ ?_ ?_ (bG ?_ (bG ?_ (bG ?_ dQ)))))
   ·intro dD jq mg dM a w G1 pG _ _ _ _ dO hc hG HT hv;have H:=HT;clear dO;have Hb:=H.full;have H:=Hb;clear hc;refine kH H (Rm rfl ?_);clear H;intro a H;refine aH ⟨rfl,?_⟩;exact nK (by kernel_rfl) (CB dD jq) rfl rfl HT Hb hG hv (fun _ _ h=>h) (rfl) H
   ·intro dD jq mg dM a w G1 pG _ _ _ _ dO hc hG HT hv;have H:=HT;clear dO;have Hb:=H.full;have H:=Hb;clear hc;refine kH H (Rm rfl ?_);clear H;intro a H;refine aH ⟨rfl,?_⟩;exact nK (by kernel_rfl) (CB dD jq) rfl rfl HT Hb hG hv (fun _ _ h=>h) (rfl) H
   ·intro dD jq mg dM a w G1 pG _ _ _ _ dO hc hG HT hv;have H:=HT;clear dO;have H:=H.bC (hv 1 8 (hc 1 (by decide)) rfl) rfl;have Hb:=H.full;have H:=Hb;clear hc;refine kH H (Rk rfl ?_);clear H;intro a H;refine aH ⟨rfl,?_⟩;exact nK (by kernel_rfl) (CB dD jq) rfl rfl HT Hb hG hv (fun _ _ h=>h) (rfl) H
   ·intro dD jq mg dM a w G1 pG _ _ _ _ dO hc hG HT hv;have H:=HT;clear dO;have H:=H.bC (hv 2 9 (hc 2 (by decide)) rfl) rfl;have Hb:=H.full;have H:=Hb;clear hc;refine kH H (Rf LW rfl ?_);clear H;intro a H;refine aH ⟨rfl,?_⟩;exact nK (by kernel_rfl) (CB dD jq) rfl rfl HT Hb hG hv (fun _ _ h=>h) (rfl) H
   ·intro dD jq mg dM a w G1 pG _ _ _ _ dO hc hG HT hv;have H:=HT;clear dO;have H:=H.bC (hv 3 10 (hc 3 (by decide)) rfl) rfl;have Hb:=H.full;have H:=Hb;clear hc;refine zK M9 H wn rfl (H.hp.PN (pG _ jg) rfl) rfl ?_;clear H;intro a H;refine aH ⟨rfl,?_⟩;exact nK (by kernel_rfl) (CB dD jq) rfl rfl HT Hb hG hv (fun _ _ h=>h) (rfl) H
   ·intro dD jq mg dM a w G1 pG _ _ _ _ dO hc hG HT hv;have H:=HT;clear dO;have Hb:=H.full;have H:=Hb;clear hc;refine kH H (Rm rfl ?_);clear H;intro a H;refine aH ⟨rfl,?_⟩;exact nK (by kernel_rfl) (CB dD jq) rfl rfl HT Hb hG hv (fun _ _ h=>h) (rfl) H
   ·intro dD jq mg dM a w G1 pG _ _ _ _ dO hc hG HT hv;have H:=HT;clear dO;have H:=H.bC (hv 5 12 (hc 5 (by decide)) rfl) rfl;have Hb:=H.full;have H:=Hb;clear hc;refine kH H (Rk rfl ?_);clear H;intro a H;refine aH ⟨rfl,?_⟩;exact nK (by kernel_rfl) (CB dD jq) rfl rfl HT Hb hG hv (fun _ _ h=>h) (rfl) H
   ·intro dD jq mg dM a w G1 pG _ _ _ _ dO hc hG HT hv;have H:=HT;clear dO;have H:=H.bC (hv 6 13 (hc 6 (by decide)) rfl) rfl;have Hb:=H.full;have H:=Hb;clear hc;refine kH H (Rf LV rfl ?_);clear H;intro a H;refine aH ⟨rfl,?_⟩;exact nK (by kernel_rfl) (CB dD jq) rfl rfl HT Hb hG hv (fun _ _ h=>h) (rfl) H
   ·intro _ _ _ _ _ _ _ _ _ hB;exact absurd hB (by decide)
   ·intro dD jq mg dM a w G1 pG _ _ _ _ dO hc hG HT hv;have H:=HT;clear dO;have H:=H.bC (hv 8 15 (hc 8 (by decide)) rfl) rfl;have Hb:=H.full;have H:=Hb;clear hc;refine mq acZ [_,_,_] H wn rfl rfl rfl rfl ?_;clear H;intro a H;refine aH ⟨rfl,?_⟩;exact nK (by kernel_rfl) (CB dD jq) rfl rfl HT Hb hG hv (fun _ _ h=>h) (rfl) H
   ·intro _ _ _ _ _ _ _ _ _ _ hB;exact absurd hB (by decide)
   ·intro _ _ _ _ _ _ _ _ _ _ _ hB;exact absurd hB (by decide)
   ·intro _ _ _ _ _ _ _ _ hB;exact absurd hB (by decide)
   ·intro _ _ _ _ _ _ _ _ hB;exact absurd hB (by decide)
   intro _ _ _ _ _ _ _ _ hB;exact absurd hB (by decide)
  ·clear H;intro o_ dD jq dM a w G1 FB _ hc hG HT hv;obtain rfl:_=o_:=Option.some.inj FB;clear FB;have H:=HT;have H:=H.bC (hv 7 14 (by decide) (hc 7 (by decide)) rfl) rfl;have Hb:=H.full;have H:=Hb;clear hc;refine gW ahv (Li:=[]) (L:=iL b s i p (.slice A lit.length c) (.slice B parts.length d) pl e :: (Lp++Lo)) H wn rfl (apL _ _ _ _ b s i p _ B parts.length d pl e lit (Hp.owns (Li:=[]) H.hp) hbuf hne) rfl ?_;clear H;rintro v15 EB L15 a w ⟨rfl,rfl⟩ Hq H;dsimp only [List.nil_append] at H;refine aH ⟨rfl,?_⟩;exact LD (by kernel_rfl) (CB dD jq) rfl HT Hb hG (fun j e h1 h2 h3=>hv j e h1 h2 h3) Hq (rfl) H
  ·clear H;intro o_ jq dM a w G1 FB _ hc hG HT hv;obtain rfl:_=o_:=Option.some.inj FB;clear FB;have H:=HT;have H:=H.bC (hv 0 9 16 (by decide) (hc 9 (by decide)) rfl) rfl;have Hb:=H.full;have H:=Hb;clear hc;refine jd KC Kw [_,_,_] [_,_,_] H wn rfl rfl rfl rfl rfl (by intro i q h;match i,h with|0,h=>exact h|n+1,h=>simp at h) rfl rfl ?_;clear H;intro b17 a w ari H;refine aH ⟨rfl,b17,?_⟩;exact YK (by kernel_rfl) rfl HT Hb hG (fun j e h1 h2 h3=>hv _ j e h1 h2 h3) (rfl) H
  ·clear H;intro o_ dD dM a w G1 FB _ hc hG HT hv;obtain rfl:_=o_:=Option.some.inj FB;clear FB;have H:=HT;have H:=H.bC (hv (((none,0),[])) 4 11 (by decide) (hc 4 (by decide)) rfl) rfl;have H:=H.bC (hv (((none,0),[])) 10 17 (by decide) (hc 10 (by decide)) rfl) rfl;have Hb:=H.full;have H:=Hb;clear hc;refine Aw (Li:=[_,_]) (Lo:=Lp) (news:=jS.cells ⟨⟨lit.toArray⟩,0,false⟩) KC Kw rfl rfl H wn rfl rfl O7 rfl (H.hp.fG 0 rfl rfl) rfl (by omega) (by omega) rfl ?_;clear H;intro v18 aeB a w JV H;obtain ⟨A18,c18,rfl,-,-⟩:=JV.shape;rw [← abF] at JV;refine aH ⟨rfl,((A18,c18),aeB),?_⟩;exact YK (by kernel_rfl) rfl HT Hb hG (fun j e h1 h2 h3=>hv _ j e h1 h2 h3) (⟨rfl,JV⟩) H
  clear H;intro b17 jq a w G sH H hv;have H:=H.bC (hv 0 7 rfl rfl) rfl;obtain ⟨u18,alz,aat⟩:=hv 11 18 (by decide) rfl;(try dsimp only at aat);obtain ⟨rfl,JV⟩:=aat;have H:=H.pX alz;clear hv;refine kH H (Rk rfl (Rf LW rfl ?_));clear H;intro a H;refine bT M9 1 (vs:=[_]) _ H wn rfl rfl rfl rfl rfl rfl rfl rfl ?_;clear H;intro w H;dsimp only [List.set,setRow] at H;refine aH ⟨rfl,?_⟩;refine K2 _ _ ?_;clear K2;refine kP H (SC (Rm rfl (Rk rfl (Rf LV rfl ?_))));clear H;intro a H;refine gW ahw (Li:=[_]) (L:=iL b s i p (.slice A lit.length c) (.slice jq.1.1 (parts.length+1) jq.1.2) pl e :: jq.2) H wn rfl (apK _ _ _ b s i p A lit.length c jq.1.1 (parts.length+1) jq.1.2 pl e (Hp.owns (Li:=[_]) H.hp)) rfl ?_;clear H;rintro v24 _ L24 a w ⟨rfl,rfl⟩ arO H;dsimp only [lca,aO] at H;refine aH ?_;refine (leave0 H results236 ?_).2
  first
   | exact H.hp.bU (L':=iL b s i _ _ _ pl e :: jq.2) (Dq _ _) ⟨_,_,_,jq.2,[],by rw [mW],⟨.inl rfl,gJ.nil,by rw [wH,ah hne];simpa using JV⟩⟩
   | exact H.hp.gB ⟨_,_,_,Lp,Lo,by rw [qL],by
     have h0:lit=[]:=by
      cases lit with
      | nil=>rfl
      | cons x r=>simp at p6
     subst h0;exact ⟨aaA,hbuf,by rw [wH,au rfl];exact O7⟩⟩
 intro h6 a H
 try have p6:=dF h6
 refine fT ?_;refine (leave0 H results236 ?_).2
 first
  | exact H.hp.bU (L':=iL b s i _ _ _ pl e :: jq.2) (Dq _ _) ⟨_,_,_,jq.2,[],by rw [mW],⟨.inl rfl,gJ.nil,by rw [wH,ah hne];simpa using JV⟩⟩
  | exact H.hp.gB ⟨_,_,_,Lp,Lo,by rw [qL],by
    have h0:lit=[]:=by
     cases lit with
     | nil=>rfl
     | cons x r=>simp at p6
    subst h0;exact ⟨aaA,hbuf,by rw [wH,au rfl];exact O7⟩⟩
theorem acu (G:GH) (Lp Lo:OL) (w0:World) (b:Nat) (s:ByteArray) (i:Int) (p v q:aj) (pl e:Int) (lit:List UInt8) (parts:List jS) (ch:Int) (plain:Bool) (hR:Cc b lit parts p v q Lp Lo) (hO:iT G (iL b s i p v q pl e :: (Lp++Lo)) w0) (hl:lit.length≤4294967296) (hp:parts.length≤4294967290) (hc:49≤ch∧ch≤57) (hpl:0≤pl∧pl≤4294967296) :
  Calls prog 240 #[(aP b 0),.int .u8 ch,.bool plain] w0 (iE w0 G (iL b s i p v q pl e :: (Lp++Lo)) fun u G' L'=>∃ p' v' q' rT jR,L'=iL b s i p' v' q' (pl+1) e :: (rT++jR)∧Cc b [] (wH lit parts++[⟨⟨#[]⟩,ch - 48,plain⟩]) p' v' q' rT jR):=by
 have hml:maxLen=9223372036854775807:=rfl
 have hfl:(wH lit parts).length≤parts.length+1:=by unfold wH;split <;> simp
 obtain ⟨A,c,rfl,aaW,aaX⟩:=hR.buf.shape;obtain ⟨B,d,rfl,aaB,aaC⟩:=hR.prt.shape;obtain ⟨Lt,qL⟩:∃ x,x=Lp++Lo:=⟨_,rfl⟩;rw [← qL] at hO ⊢;refine kS (N:=29) (T:=[(0,_),(1,_),(2,_)]) func240 rfl ntmps240 rfl rfl hO ?_;intro a H;refine kP H (SR fun _ K1=>Rm rfl ?_);clear H;intro a H;refine gW RO (Li:=[]) (L:=iL b s i p (.slice A lit.length c) (.slice B parts.length d) pl e :: Lt) H wn rfl (by subst qL;exact SA _ Lp Lo _ b s i p _ _ pl e lit parts hR (Hp.owns (Li:=[]) H.hp) hl (by omega)) rfl ?_;clear H;rintro v7 G7 L7 a w ⟨p',v',q',rT,jR,rfl,Mk⟩ yh H;dsimp only [List.nil_append] at H;obtain ⟨A7,c7,rfl,-,-⟩:=Mk.buf.shape;obtain ⟨B7,d7,rfl,-,-⟩:=Mk.prt.shape;refine K1 _ _ ?_;clear K1;refine kP H (SR fun _ K2=>Rm rfl (Rm rfl (Rk rfl (aR LW M9 0 rfl rfl (Rm rfl ?_)))));clear H;intro a H;refine aoU H wn rfl rfl (by omega) (by omega) rfl ?_;clear H;intro a H;refine Kl _ nD Nh H wn rfl rfl rfl ?_;clear H;intro a H;rw [JZ (by omega) (by omega)] at H;refine kH H (Rm rfl ?_);clear H;intro a H;refine mq acZ [_,_,_] H wn rfl rfl rfl rfl ?_;clear H;intro a H;refine jd KC Kw [_,_,_] [_,_,_] H wn rfl rfl rfl rfl rfl (by intro i q h;match i,h with|0,h=>exact h|n+1,h=>simp at h) rfl rfl ?_;clear H;intro b18 a w ajz H;have H:=(St.cast H (show _=[_,_]++(rT++jR) from rfl)).perm (List.Perm.append_left _ qZ);have H:=St.un H;refine Aw (Li:=[_,_]++jR) (Lo:=rT) (news:=jS.cells ⟨⟨#[]⟩,ch - 48,plain⟩) KC Kw rfl rfl H wn rfl rfl Mk.prt rfl (H.hp.fG 0 rfl rfl) rfl (by omega) (by omega) rfl ?_;clear H;intro v19 XK a w FD H;obtain ⟨A19,c19,rfl,-,-⟩:=FD.shape;rw [← abF] at FD;have H:=H.assoc.perm (List.Perm.append_left _ qZ);dsimp only [lca,aO] at H;refine kH H (Rk rfl (Rf LW rfl ?_));clear H;intro a H;refine bT M9 1 (vs:=[_]) _ H wn rfl rfl rfl rfl rfl rfl rfl rfl ?_;clear H;intro w H;dsimp only [List.set,setRow] at H;refine K2 _ _ ?_;clear K2;refine kP H (SC (Rm rfl (Rk rfl (aR Oo aD 1 rfl rfl (Rd rfl (Rk rfl (Rf Oo rfl ?_)))))));clear H;intro a H;refine bT aD 1 (vs:=[_]) _ H wn rfl rfl rfl rfl rfl rfl rfl rfl ?_;clear H;intro w H;dsimp only [List.set,setRow] at H;refine aH ?_;refine (leave0 H results240 ?_).2;exact H.hp.bU (L':=iL b s i _ _ _ (pl+1) e :: (XK++jR)) (Dq _ _) ⟨_,_,_,XK,jR,rfl,Mk.ptr,Mk.buf,by simpa using FD⟩
end
section
open Go.RowKit
section
variable {N:Nat} {D:List Deferred} {w0:World} {F:Nat→Prop} {G0 G:GH} {L:OL} {T Xs:List (Nat × aj)}
variable {r:Option Nat} {P:Program} {Q:Exit→Act→World→Prop} {l:List Oper} {a a':Act} {w w':World}
abbrev WW:Type:=Nat × aj × Nat × Bool
def WX (ent:List WW) (S:Nat→Bool) (a:Act):Prop:=∀ e∈ent,S e.2.2.1=e.2.2.2→a.tmps[e.1]?=some e.2.1
theorem WX.at {ent:List WW} {S:Nat→Bool} {a:Act} (h:WX ent S a) (k:Nat) {t:Nat} {v:aj} {j:Nat} {b:Bool} (hk:ent[k]?=some (t,v,j,b)) (hS:S j=b):a.tmps[t]?=some v:=h _ (nH hk) hS
theorem aoT {ops:Array Oper} {rest:List Oper} {d:Nat} {ty:TypeId} {pos:String} {aS:Array Edge} {g:Option (Nat × Bool)} {t:TypeId} {x y:Operand} {s:ByteArray} {ky:IntKind} {p:Int} (hi:Nat) (ht:P.underlying t=some .string) (H:St N D w0 F G0 G L T a w) (hw:Region.wanted ⟨some d,.slice t x none (some y) none,ty,pos,aS,g⟩ (yielded ops a.tmps)=true) (hx:ev T x=some (.string s)) (hy:ev T y=some (.int ky p)) (hp:p=(hi:Int)) (h1:hi≤s.size) (hd:Nat.blt d N=true)
  (k:∀ a',St N D w0 F G0 G L ((d,.string (s.extract 0 hi)) :: T) a' w→WL r P ops Q rest a' w):WL r P ops Q (⟨some d,.slice t x none (some y) none,ty,pos,aS,g⟩ :: rest) a w:=by
 subst hp
 have hr:=run_slice_string_h (P:=P) w t s ht ky (hi:Int) (by omega) (by omega)
 rw [Int.toNat_natCast] at hr
 refine ig (v:=.string (s.extract 0 hi)) (w':=w) hw rfl ?_ (k _ (H.put hd _ H.hp))
 simp only [execOp,H.ev hx,yU,Option.map_none,H.ev hy,eY,run_sliceAt_string w t _ _ _ _ ht,hr,pY,uj]
end
end
section
open Go.RowKit
theorem ahx:∀ args w,(callFunc 245 args).run prog w=.ok (.enter 245 args) w:=enters func245 rfl (by kernel_rfl)
theorem zk:dL prog 289 0 0:=⟨by kernel_rfl⟩
theorem Y3:∀ args w,(callFunc 235 args).run prog w=.ok (.enter 235 args) w:=enters func235 rfl (by kernel_rfl)
theorem Y4:∀ args w,(callFunc 239 args).run prog w=.ok (.enter 239 args) w:=enters func239 rfl (by kernel_rfl)
theorem Y5:∀ args w,(callFunc 240 args).run prog w=.ok (.enter 240 args) w:=enters func240 rfl (by kernel_rfl)
theorem rC:dL prog 289 1 1:=⟨by kernel_rfl⟩
theorem RP:∀ args w,(callFunc 238 args).run prog w=.ok (.enter 238 args) w:=enters func238 rfl (by kernel_rfl)
theorem Co:dL prog 289 5 6:=⟨by kernel_rfl⟩
def tJ (s p:ByteArray):Bool:=decide (p.size≤s.size) && ((s.extract 0 p.size).toList == p.toList)
theorem ajw (G:GH) (w0:World) (hG:Hold G w0) (s p:ByteArray) (hs:s.size≤4611686018427387904) (hp:p.size≤4611686018427387904):Calls prog 245 #[.string s,.string p] w0 (bV w0 G fun u G'=>u=.bool (tJ s p)∧G=G'):=by
 refine eN [(0,_),(1,_)] func245 rfl ntmps245 rfl rfl hG ?_;intro a H;refine kP H (SR fun _ K1=>ak K1 rfl (SR fun _ K2=>Rm rfl (Rv iD rfl (Rm rfl (Rv iD rfl (Rc rfl (Rm rfl (Sp 10 rfl ?_ ?_)))))))) <;> clear H K1
 ·intro h10 a H
  try have sJ:=dT h10
  refine kH H (YM h10 rfl (YM h10 rfl ?_));clear H;intro a H;refine BO iD H (wg H rfl rfl h10) rfl rfl ?_;clear H;intro a H;refine aoT p.size iD H (wg H rfl rfl h10) rfl rfl rfl (by omega) rfl ?_;clear H;intro a H;refine kH H (YM h10 rfl ?_);clear H;intro a H;refine II H (wg H rfl rfl h10) rfl rfl rfl ?_;clear H;intro a H;exact kH H (Pt h10 rfl (ak K2 rfl (LR results245 rfl fun H=>H.rt ⟨aM (by unfold tJ;first|(simp_all;done)|(simp_all;omega)),rfl⟩)))
 intro h10 a H
 try have sJ:=dF h10
 exact kH H (aZ h10 rfl (aZ h10 rfl (Pf h10 rfl (ak K2 rfl (LR results245 rfl fun H=>H.rt ⟨aM (by unfold tJ;first|(simp_all;done)|(simp_all;omega)),rfl⟩)))))
theorem TT (G:GH) (w0:World) (hG:Hold G w0) (s p:ByteArray) (hs:s.size≤4611686018427387904) (hp:p.size≤4611686018427387904):Calls prog 238 #[.string s,.string p] w0 (bV w0 G fun u G'=>u=.bool (tJ s p)∧G=G'):=by
 refine eN [(0,_),(1,_)] func238 rfl ntmps238 rfl rfl hG ?_;intro a H;refine kP H (SR fun _ K1=>ak K1 rfl (SR fun _ K2=>Rm rfl (Rm rfl ?_)));clear H K1;intro a H;refine s_call ahx H wn rfl (ajw _ _ H.ro s p hs hp) rfl ?_;clear H;rintro v7 _ a w ⟨rfl,rfl⟩ - H;exact kH H (ak K2 rfl (LR results238 rfl fun H=>H.rt ⟨rfl,rfl⟩))
def wD (s:ByteArray) (k:Nat):Bool:=decide (k < s.size) && decide (49≤jh s k) && decide (jh s k≤57)
theorem YG (G:GH) (L:OL) (w0:World) (b:Nat) (s:ByteArray) (i:Int) (p v q:aj) (pl e:Int) (k:Nat) (hs:s.size≤4611686018427387904) (hO:iT G (iL b s i p v q pl e :: L) w0) :
  Calls prog 239 #[(aP b 0),vi k] w0 (iE w0 G (iL b s i p v q pl e :: L) fun u G' L'=>u=.bool (wD s k)∧L'=iL b s i p v q pl e :: L∧G'=G):=by
 refine kS (N:=30) (T:=[(0,_),(1,_)]) func239 rfl ntmps239 rfl rfl hO ?_;intro a H;refine kP H (SR fun _ K1=>ak K1 rfl (SR fun _ K2=>Rm rfl (Rm rfl (Rk rfl (aR zk gZ 0 rfl rfl (Rv iD rfl (Rc rfl (Rm rfl (Sp 12 rfl ?_ ?_))))))))) <;> clear H K1
 ·intro h12 a H
  try have qm:=dT h12
  refine kH H (YM h12 rfl ?_);clear H;intro a H;refine uR H (wg H rfl rfl h12) rfl rfl ?_;clear H;intro a H;refine kH H (YF zk h12 rfl (YO gZ 0 h12 rfl (YM h12 rfl ?_)));clear H;intro a H;refine qw k iD H (wg H rfl rfl h12) rfl rfl rfl (by omega) rfl ?_;clear H;intro a H;rw [← nV] at H;refine kH H (YC h12 rfl (Pt h12 rfl (Rm rfl (Sp 21 rfl ?_ ?_)))) <;> clear H
  ·intro h21 a H
   try have ou:=dT h21
   refine kH H (YM h21 rfl ?_);clear H;intro a H;refine uR H (wg H rfl rfl h21) rfl rfl ?_;clear H;intro a H;refine kH H (YF zk h21 rfl (YO gZ 0 h21 rfl (YM h21 rfl ?_)));clear H;intro a H;refine qw k iD H (wg H rfl rfl h21) rfl rfl rfl (by omega) rfl ?_;clear H;intro a H;rw [← nV] at H;exact kH H (YC h21 rfl (Pt h21 rfl (ak K2 rfl (LR results239 rfl fun H=>H.hp.gB ⟨aM (by unfold wD;first|(simp_all;done)|(simp_all;omega)),rfl,rfl⟩))))
  intro h21 a H
  try have ou:=dF h21
  exact kH H (aZ h21 rfl (aT h21 rfl (aT h21 rfl (Pf h21 rfl (ak K2 rfl (LR results239 rfl fun H=>H.hp.gB ⟨aM (by unfold wD;first|(simp_all;done)|(simp_all;omega)),rfl,rfl⟩))))))
 intro h12 a H
 try have qm:=dF h12
 exact kH H (aZ h12 rfl (aT h12 rfl (aT h12 rfl (Pf h12 rfl (Rm rfl (aZ rfl rfl (aT rfl rfl (aT rfl rfl (Pf rfl rfl (ak K2 rfl (LR results239 rfl fun H=>H.hp.gB ⟨aM (by unfold wD;first|(simp_all;done)|(simp_all;omega)),rfl,rfl⟩)))))))))))
structure wm where
 i:Nat
 lit:List UInt8
 parts:List jS
 pl:Nat
 e:Int
def qp (s:ByteArray) (x:wm):wm :=
 if tJ (s.extract x.i s.size) ⟨#[37,37]⟩=true then ⟨x.i+2,x.lit++[37],x.parts,x.pl,x.e⟩
 else if wD s (x.i+1)=true then ⟨x.i+2,[],wH x.lit x.parts++[⟨⟨#[]⟩,jh s (x.i+1) - 48,false⟩],x.pl+1,x.e⟩
 else if tJ (s.extract x.i s.size) ⟨#[37,100]⟩=true∧wD s (x.i+2)=true then ⟨x.i+3,[],wH x.lit x.parts++[⟨⟨#[]⟩,jh s (x.i+2) - 48,true⟩],x.pl+1,x.e⟩
 else ⟨x.i,x.lit,x.parts,x.pl,14⟩
abbrev yG (b:Nat) (s:ByteArray) (x:wm) (p v q:aj):Nat × Obj:=iL b s x.i p v q x.pl x.e
theorem YE {s:ByteArray} {k:Nat} (h:wD s k=true):k < s.size∧49≤jh s k∧jh s k≤57:=by
 simpa [wD,and_assoc] using h
set_option maxHeartbeats 1000000 in
theorem anJ (G:GH) (Lp Lo:OL) (w0:World) (b:Nat) (s:ByteArray) (x:wm) (p v q:aj) (hR:Cc b x.lit x.parts p v q Lp Lo) (hO:iT G (yG b s x p v q :: (Lp++Lo)) w0) (hs:s.size≤4294967290) (hi:x.i < s.size) (hl:x.lit.length≤4294967290) (hp:x.parts.length≤4294967290) (hpl:x.pl≤4294967290) :
    Calls prog 234 #[(aP b 0)] w0 (iE w0 G (yG b s x p v q :: (Lp++Lo)) fun u G' L'=>∃ p' v' q' rT jR,L'=yG b s (qp s x) p' v' q' :: (rT++jR)∧Cc b (qp s x).lit (qp s x).parts p' v' q' rT jR):=by
  obtain ⟨i,lit,parts,pl,e⟩:=x;dsimp only [yG] at *
  have hex:(s.extract i s.size).size≤4611686018427387904:=by rw [ByteArray.size_extract];omega
  obtain ⟨A,c,rfl,aaW,aaX⟩:=hR.buf.shape;obtain ⟨B,d,rfl,aaB,aaC⟩:=hR.prt.shape;obtain ⟨Lt,qL⟩:∃ x,x=Lp++Lo:=⟨_,rfl⟩;rw [← qL] at hO ⊢;refine kS (N:=93) (T:=[(0,_)]) func234 rfl ntmps234 rfl rfl hO ?_;intro a H;refine uy ?_;refine aN (fun _ K1=>?_);refine dI hmx [[],[0],[0,1],[0,1,2],[],[4],[4,5],[4,5,6],(ra 0 8),(ra 0 9),(ra 0 10)] [] (by kernel_rfl) [_,_,_,.string s,_,_,_,vi i,.string (s.extract i s.size),.bool (tJ (s.extract i s.size) ⟨#[37,37]⟩),_] H (aI (Z0 rfl (Rm rfl)) (Z1 0 6 rfl (Rk rfl)) (Z1 1 7 rfl (Rf zk rfl)) (Z1 2 8 rfl (Ro gZ 0 rfl)) (aI (Z0 rfl (Rm rfl)) (Z1 4 10 rfl (Rk rfl)) (Z1 5 11 rfl (Rf rC rfl)) (Z1 6 12 rfl (Ro aD 0 rfl)) (bG ?_ (bG ?_ (bG (Z1 9 15 rfl (Ra rfl)) dQ))))) ?_
  · refine fu 3 9 7 13 rfl rfl fun _ a w G1 hG HT H fin=>?_;refine V5 i iD H wn rfl rfl rfl (by omega) rfl ?_;clear H;intro a H;exact fin H iJ rfl
  · refine fq 8 14 rfl rfl fun _ a w G1 hG HT H fin=>?_;refine s_call RP H wn rfl (TT _ _ H.ro _ _ hex (by decide)) rfl ?_;clear H;rintro v15 EB a w ⟨rfl,rfl⟩ Hq H;exact fin H Hq (rfl)
  clear H;intro a w G sH H hv;have H:=H.bC (hv 10 5 rfl rfl) rfl;clear hv;refine aH ⟨rfl,?_⟩;refine K1 _ _ ?_;clear K1;refine qG H rfl ?_ ?_
  · intro h5
    try have p5:=dT h5
    refine kP H (SR fun _ K2=>Rm rfl (Rk rfl (Rf LV rfl ?_)));clear H;intro a H;refine gW Y3 (Li:=[]) (L:=iL b s i p (.slice A lit.length c) (.slice B parts.length d) pl e :: Lt) H wn rfl (by subst qL;exact adT _ Lp Lo _ b s i p _ B parts.length d pl e lit.length _ 37 hR.ptr (Hp.owns (Li:=[]) H.hp) hR.buf (by omega)) rfl ?_;clear H;rintro v19 _ L19 a w ⟨asR,aes,rfl,FD,rfl⟩ uM H;dsimp only [List.nil_append] at H;obtain ⟨A19,c19,rfl,-,-⟩:=FD.shape;refine K2 _ _ ?_;clear K2;refine kP H (SC (Rm rfl (Rk rfl (aR rC aD 0 rfl rfl (Rd rfl (Rk rfl (Rf rC rfl ?_)))))));clear H;intro a H;refine bT aD 0 (vs:=[_]) _ H wn rfl rfl rfl rfl rfl rfl rfl rfl ?_;clear H;intro w H;dsimp only [List.set,setRow] at H;refine aH ?_;refine (leave0 H results234 ?_).2;exact H.hp.gB ⟨_,_,_,Lp,aes,by rw [qp,au h5];rfl,by rw [qp,au h5];exact ⟨.inr rfl,by simpa [Lib.byteCells] using FD,hR.prt⟩⟩
  intro h5
  try have p5:=dF h5
  refine kP H (SR fun _ K3=>Rm rfl (Rm rfl (Rk rfl (aR rC aD 0 rfl rfl (Rd rfl ?_)))));clear H;intro a H;rw [show ((i:Int)+1)=((i+1:Nat):Int) from rfl] at H;refine gW Y4 (Li:=[]) (L:=iL b s i p (.slice A lit.length c) (.slice B parts.length d) pl e :: Lt) H wn rfl (YG _ Lt _ b s i p _ _ pl e (i+1) (by omega) (Hp.owns (Li:=[]) H.hp)) rfl ?_;clear H;rintro v34 _ L34 a w ⟨rfl,rfl,rfl⟩ aak H;dsimp only [List.nil_append] at H;refine kH H (ak K3 rfl (Cd rfl ?_ ?_)) <;> clear H K3
  · intro h27 a H
    try have p27:=dT h27
    have hd1:=YE h27;refine aN (fun _ K4=>?_);refine dI hmx [[],[],[1],[1,2],[1,2,3],[],[5],[5,6],[5,6,7],(ra 5 4),(ra 1 9),(ra 0 11)] [11] (by kernel_rfl) [_,_,_,_,.string s,_,_,_,vi i,_,.int .u8 (jh s (i+1))] H (aI (Z0 rfl (Rm rfl)) (Z0 rfl (Rm rfl)) (Z1 1 36 rfl (Rk rfl)) (Z1 2 37 rfl (Rf zk rfl)) (aI (Z1 3 38 rfl (Ro gZ 0 rfl)) (Z0 rfl (Rm rfl)) (Z1 5 40 rfl (Rk rfl)) (Z1 6 41 rfl (Rf rC rfl)) (aI (Z1 7 42 rfl (Ro aD 0 rfl)) (Z1 8 43 rfl (Rd rfl)) ?_ (cZ rfl) dQ))) ?_
    · refine fu 4 39 9 44 rfl rfl fun _ a w G1 hG HT H fin=>?_;refine qw (i+1) iD H wn rfl rfl rfl hd1.1 rfl ?_;clear H;intro a H;rw [← nV] at H;exact fin H iJ rfl
    clear H;intro a w G OC H hv;have H:=H.bC (hv 0 35 rfl rfl) rfl;have H:=H.bC (hv 10 45 rfl rfl) rfl;clear hv;refine gW Y5 (Li:=[]) (L:=iL b s i p (.slice A lit.length c) (.slice B parts.length d) pl e :: Lt) H wn rfl (by subst qL;exact acu _ Lp Lo _ b s i p _ _ pl e lit parts (jh s (i+1)) false hR (Hp.owns (Li:=[]) H.hp) (by omega) (by omega) hd1.2 (by omega)) rfl ?_;clear H;rintro v46 QE L46 a w ⟨p46,aqn,q46,KU,KT,rfl,xY⟩ Ea H;dsimp only [List.nil_append] at H;obtain ⟨A46,c46,rfl,-,-⟩:=xY.buf.shape;obtain ⟨B46,d46,rfl,-,-⟩:=xY.prt.shape;refine aH ⟨rfl,?_⟩;refine K4 _ _ ?_;clear K4;refine kP H (SC (Rm rfl (Rk rfl (aR rC aD 0 rfl rfl (Rd rfl (Rk rfl (Rf rC rfl ?_)))))));clear H;intro a H;refine bT aD 0 (vs:=[_]) _ H wn rfl rfl rfl rfl rfl rfl rfl rfl ?_;clear H;intro w H;dsimp only [List.set,setRow] at H;refine aH ?_;refine (leave0 H results234 ?_).2;exact H.hp.gB ⟨_,_,_,KU,KT,by rw [qp,ah (by simp [h5]),au h27];rfl,by rw [qp,ah (by simp [h5]),au h27];exact xY⟩
  intro h27 a H
  try have p27:=dF h27
  refine aN (fun _ K5=>?_)
  by_cases c1:tJ (s.extract i s.size) ⟨#[37,100]⟩=true
  · skip;refine dI hmx [[],[0],[0,1],[0,1,2],[],[4],[4,5],[4,5,6],(ra 0 8),(ra 0 9),(ra 0 10),(ra 0 11),(ra 0 11),(ra 0 11++[12]),(ra 0 11++[12,13]),(ra 0 11++[12,13,14]),(ra 0 11++ra 12 4),(ra 0 17),(ra 0 18),(ra 0 19)] [] (by kernel_rfl) [_,_,_,.string s,_,_,_,vi i,.string (s.extract i s.size),.bool (tJ (s.extract i s.size) ⟨#[37,100]⟩),.bool (decide (tJ (s.extract i s.size) ⟨#[37,100]⟩=true)),_,_,(aP b 0),_,vi i,vi ((i+2:Nat):Int),.bool (wD s (i+2)),_,_] H (aI (Z0 rfl (Rm rfl)) (Z1 0 55 rfl (Rk rfl)) (Z1 1 56 rfl (Rf zk rfl)) (Z1 2 57 rfl (Ro gZ 0 rfl)) (aI (Z0 rfl (Rm rfl)) (Z1 4 59 rfl (Rk rfl)) (Z1 5 60 rfl (Rf rC rfl)) (Z1 6 61 rfl (Ro aD 0 rfl)) (aI ?_ ?_ ?_ (Z1 10 65 rfl (YM (aG c1) rfl)) (aI (Z1 10 65 rfl (YM (aG c1) rfl)) ?_ (Z2 13 68 10 65 rfl (YF rC (aG c1) rfl)) (Z2 14 69 10 65 rfl (YO aD 0 (aG c1) rfl)) (aI ?_ ?_ (Z2 10 65 17 72 rfl (Pt (aG c1) rfl)) (Z1 18 73 rfl (Ra rfl)) dQ))))) ?_
    · refine fu 3 58 7 62 rfl rfl fun _ a w G1 hG HT H fin=>?_;refine V5 i iD H wn rfl rfl rfl (by omega) rfl ?_;clear H;intro a H;exact fin H iJ rfl
    · refine fq 8 63 rfl rfl fun _ a w G1 hG HT H fin=>?_;refine s_call RP H wn rfl (TT _ _ H.ro _ _ hex (by decide)) rfl ?_;clear H;rintro v64 G64 a w ⟨rfl,rfl⟩ TB H;exact fin H TB (rfl)
    · refine fq 9 64 rfl rfl fun _ a w G1 hG HT H fin=>?_;refine kH H (Rm rfl ?_);clear H;intro a H;exact fin H iJ (by show _=_;simp)
    · refine fu 12 67 10 65 rfl rfl fun _ a w G1 hG HT H fin=>?_;refine uR H (wg H rfl rfl (aG c1)) rfl rfl ?_;clear H;intro a H;exact fin H iJ rfl
    · refine fu 15 70 10 65 rfl rfl fun _ a w G1 hG HT H fin=>?_;refine Qc _ H (wg H rfl rfl (aG c1)) rfl rfl rfl (by omega) (by omega) rfl ?_;clear H;intro a H;exact fin H iJ rfl
    · refine wh 11 66 16 71 10 65 rfl rfl fun _ a w G1 hG HT H fin=>?_;refine gW Y4 (Li:=[]) (L:=iL b s i p (.slice A lit.length c) (.slice B parts.length d) pl e :: Lt) H (wg H rfl rfl (aG c1)) rfl (YG _ Lt _ b s i p _ _ pl e (i+2) (by omega) (Hp.owns (Li:=[]) H.hp)) rfl ?_;clear H;rintro v72 G72 L72 a w ⟨rfl,rfl,rfl⟩ aja H;dsimp only [List.nil_append] at H;exact fin H aja (rfl)
    clear H;intro a w G OD H hv;have H:=H.bC (hv 19 54 rfl rfl) rfl;clear hv;refine aH ⟨rfl,?_⟩;refine K5 _ _ ?_;clear K5;refine qG H rfl ?_ ?_
    · intro iI
      try have p54:=dT iI
      have hd2:=YE iI;refine aN (fun _ K6=>?_);refine dI hmx [[],[],[1],[1,2],[1,2,3],[],[5],[5,6],[5,6,7],(ra 5 4),(ra 1 9),(ra 0 11)] [11] (by kernel_rfl) [_,_,_,_,.string s,_,_,_,vi i,_,.int .u8 (jh s (i+2))] H (aI (Z0 rfl (Rm rfl)) (Z0 rfl (Rm rfl)) (Z1 1 75 rfl (Rk rfl)) (Z1 2 76 rfl (Rf zk rfl)) (aI (Z1 3 77 rfl (Ro gZ 0 rfl)) (Z0 rfl (Rm rfl)) (Z1 5 79 rfl (Rk rfl)) (Z1 6 80 rfl (Rf rC rfl)) (aI (Z1 7 81 rfl (Ro aD 0 rfl)) (Z1 8 82 rfl (Rd rfl)) ?_ (cZ rfl) dQ))) ?_
      · refine fu 4 78 9 83 rfl rfl fun _ a w G1 hG HT H fin=>?_;refine qw (i+2) iD H wn rfl rfl rfl hd2.1 rfl ?_;clear H;intro a H;rw [← nV] at H;exact fin H iJ rfl
      clear H;intro a w G Ah H hv;have H:=H.bC (hv 0 74 rfl rfl) rfl;have H:=H.bC (hv 10 84 rfl rfl) rfl;clear hv;refine gW Y5 (Li:=[]) (L:=iL b s i p (.slice A lit.length c) (.slice B parts.length d) pl e :: Lt) H wn rfl (by subst qL;exact acu _ Lp Lo _ b s i p _ _ pl e lit parts (jh s (i+2)) true hR (Hp.owns (Li:=[]) H.hp) (by omega) (by omega) hd2.2 (by omega)) rfl ?_;clear H;rintro v85 G85 L85 a w ⟨p46,aqn,q46,KU,KT,rfl,xY⟩ arP H;dsimp only [List.nil_append] at H;obtain ⟨A46,c46,rfl,-,-⟩:=xY.buf.shape;obtain ⟨B46,d46,rfl,-,-⟩:=xY.prt.shape;refine aH ⟨rfl,?_⟩;refine K6 _ _ ?_;clear K6;refine kP H (SC (Rm rfl (Rk rfl (aR rC aD 0 rfl rfl (Rd rfl (Rk rfl (Rf rC rfl ?_)))))));clear H;intro a H;refine bT aD 0 (vs:=[_]) _ H wn rfl rfl rfl rfl rfl rfl rfl rfl ?_;clear H;intro w H;dsimp only [List.set,setRow] at H;refine aH ?_;refine (leave0 H results234 ?_).2
      have uN:¬ tJ (s.extract i s.size) ⟨#[37,37]⟩=true:=by simp [h5]
      have yj:¬ wD s (i+1)=true:=by simp [h27]
      first
        | exact H.hp.gB ⟨_,_,_,KU,KT,by rw [qp,ah uN,ah yj,au ⟨c1,iI⟩];rfl,by rw [qp,ah uN,ah yj,au ⟨c1,iI⟩];exact xY⟩
        | (have Fz:¬ (tJ (s.extract i s.size) ⟨#[37,100]⟩=true∧wD s (i+2)=true):=by simp_all
           exact H.hp.gB ⟨_,_,_,Lp,Lo,by rw [qp,ah uN,ah yj,ah Fz,qL],by rw [qp,ah uN,ah yj,ah Fz];exact hR⟩)
    intro iI
    try have p54:=dF iI
    refine kP H (SC (Rm rfl (Rk rfl (Rf Co rfl ?_))));clear H;intro a H;refine bT iO 0 (vs:=[_]) _ H wn rfl rfl rfl rfl rfl rfl rfl rfl ?_;clear H;intro w H;dsimp only [List.set,setRow] at H;refine aH ?_;refine (leave0 H results234 ?_).2
    have uN:¬ tJ (s.extract i s.size) ⟨#[37,37]⟩=true:=by simp [h5]
    have yj:¬ wD s (i+1)=true:=by simp [h27]
    first
      | exact H.hp.gB ⟨_,_,_,KU,KT,by rw [qp,ah uN,ah yj,au ⟨c1,iI⟩];rfl,by rw [qp,ah uN,ah yj,au ⟨c1,iI⟩];exact xY⟩
      | (have Fz:¬ (tJ (s.extract i s.size) ⟨#[37,100]⟩=true∧wD s (i+2)=true):=by simp_all
         exact H.hp.gB ⟨_,_,_,Lp,Lo,by rw [qp,ah uN,ah yj,ah Fz,qL],by rw [qp,ah uN,ah yj,ah Fz];exact hR⟩)
  skip;refine dI hmx [[],[0],[0,1],[0,1,2],[],[4],[4,5],[4,5,6],(ra 0 8),(ra 0 9),(ra 0 10),(ra 0 11),(ra 0 11),(ra 0 11++[12]),(ra 0 11++[12,13]),(ra 0 11++[12,13,14]),(ra 0 11++ra 12 4),(ra 0 17),(ra 0 18),(ra 0 19)] [] (by kernel_rfl) [_,_,_,.string s,_,_,_,vi i,.string (s.extract i s.size),.bool (tJ (s.extract i s.size) ⟨#[37,100]⟩),.bool (decide (tJ (s.extract i s.size) ⟨#[37,100]⟩=true)),undef,undef,undef,undef,undef,undef,undef,_,_] H (aI (Z0 rfl (Rm rfl)) (Z1 0 55 rfl (Rk rfl)) (Z1 1 56 rfl (Rf zk rfl)) (Z1 2 57 rfl (Ro gZ 0 rfl)) (aI (Z0 rfl (Rm rfl)) (Z1 4 59 rfl (Rk rfl)) (Z1 5 60 rfl (Rf rC rfl)) (Z1 6 61 rfl (Ro aD 0 rfl)) (aI ?_ ?_ ?_ (aV (j:=10) (by kernel_rfl) (fun _ _ _ _ _ h=>h) rfl rfl rfl rfl rfl (fun _ _ h=>aW h (aM (aQ c1))) rfl (fun _=>rfl)) (aI (aV (j:=10) (by kernel_rfl) (fun _ _ _ _ _ h=>h) rfl rfl rfl rfl rfl (fun _ _ h=>aW h (aM (aQ c1))) rfl (fun _=>rfl)) (aV (j:=10) (by kernel_rfl) (fun _ _ _ _ _ h=>h) rfl rfl rfl rfl rfl (fun _ _ h=>aW h (aM (aQ c1))) rfl (fun _=>rfl)) (aV (j:=10) (by kernel_rfl) (fun _ _ _ _ _ h=>h) rfl rfl rfl rfl rfl (fun _ _ h=>aW h (aM (aQ c1))) rfl (fun _=>rfl)) (aV (j:=10) (by kernel_rfl) (fun _ _ _ _ _ h=>h) rfl rfl rfl rfl rfl (fun _ _ h=>aW h (aM (aQ c1))) rfl (fun _=>rfl)) (aI (aV (j:=10) (by kernel_rfl) (fun _ _ _ _ _ h=>h) rfl rfl rfl rfl rfl (fun _ _ h=>aW h (aM (aQ c1))) rfl (fun _=>rfl)) (aV (j:=10) (by kernel_rfl) (fun _ _ _ _ _ h=>h) rfl rfl rfl rfl rfl (fun _ _ h=>aW h (aM (aQ c1))) rfl (fun _=>rfl)) (Z2 10 65 17 72 rfl (Pf (aQ c1) rfl)) (Z1 18 73 rfl (Ra rfl)) dQ))))) ?_
  · refine fu 3 58 7 62 rfl rfl fun _ a w G1 hG HT H fin=>?_;refine V5 i iD H wn rfl rfl rfl (by omega) rfl ?_;clear H;intro a H;exact fin H iJ rfl
  · refine fq 8 63 rfl rfl fun _ a w G1 hG HT H fin=>?_;refine s_call RP H wn rfl (TT _ _ H.ro _ _ hex (by decide)) rfl ?_;clear H;rintro v64 G64 a w ⟨rfl,rfl⟩ TB H;exact fin H TB (rfl)
  · refine fq 9 64 rfl rfl fun _ a w G1 hG HT H fin=>?_;refine kH H (Rm rfl ?_);clear H;intro a H;exact fin H iJ (by show _=_;simp)
  clear H;intro a w G OD H hv;have H:=H.bC (hv 19 54 rfl rfl) rfl;clear hv;refine aH ⟨rfl,?_⟩;refine K5 _ _ ?_;clear K5;refine oF H rfl rfl ?_;refine kP H (SC (Rm rfl (Rk rfl (Rf Co rfl ?_))));clear H;intro a H;refine bT iO 0 (vs:=[_]) _ H wn rfl rfl rfl rfl rfl rfl rfl rfl ?_;clear H;intro w H;dsimp only [List.set,setRow] at H;refine aH ?_;refine (leave0 H results234 ?_).2
  have uN:¬ tJ (s.extract i s.size) ⟨#[37,37]⟩=true:=by simp [h5]
  have yj:¬ wD s (i+1)=true:=by simp [h27]
  first
    | exact H.hp.gB ⟨_,_,_,KU,KT,by rw [qp,ah uN,ah yj,au ⟨c1,iI⟩];rfl,by rw [qp,ah uN,ah yj,au ⟨c1,iI⟩];exact xY⟩
    | (have Fz:¬ (tJ (s.extract i s.size) ⟨#[37,100]⟩=true∧wD s (i+2)=true):=by simp_all
       exact H.hp.gB ⟨_,_,_,Lp,Lo,by rw [qp,ah uN,ah yj,ah Fz,qL],by rw [qp,ah uN,ah yj,ah Fz];exact hR⟩)
end
section
open Go.RowKit
theorem ahr:∀ args w,(callFunc 234 args).run prog w=.ok (.enter 234 args) w:=enters func234 rfl (by kernel_rfl)
def NM (s:ByteArray) (i:Nat):UInt8:=if h:i < s.size then s[i] else 0
theorem aeP (s:ByteArray) (i:Nat):jh s i=((NM s i).toNat:Int):=by
 unfold jh NM;split <;> rfl
def pQ (s:ByteArray) (x:wm):wm:=if jh s x.i=37 then qp s x else ⟨x.i+1,x.lit++[NM s x.i],x.parts,x.pl,x.e⟩
def Ep (s:ByteArray):Nat→wm→wm
 | 0,x=>x
 | f+1,x=>if x.i < s.size∧x.e=0 then Ep s f (pQ s x) else x
def mS (s:ByteArray) (x:wm):Nat:=if x.e=0 then s.size - x.i else 0
theorem acO {s:ByteArray} {f:Nat} {x:wm} (h:¬ (x.i < s.size∧x.e=0)):Ep s f x=x:=by
 cases f with
 | zero=>rfl
 | succ f=>rw [Ep,ah h]
theorem aix (lit:List UInt8) (parts:List jS):(wH lit parts).length≤parts.length+1:=by unfold wH;split <;> simp
theorem adg (s:ByteArray) (x:wm) (h:x.i < s.size∧x.e=0) (h1:x.lit.length≤x.i) (h2:x.parts.length≤2*x.i) (h3:x.pl≤x.i) :
  (pQ s x).i≤x.i+3∧(pQ s x).lit.length≤(pQ s x).i∧(pQ s x).parts.length≤2*(pQ s x).i∧(pQ s x).pl≤(pQ s x).i∧mS s (pQ s x) < mS s x∧mS s x≤s.size:=by
 have hf:=aix x.lit x.parts;have hm:mS s x=s.size - x.i:=au h.2
 unfold pQ qp
 split
 ·split
  ·refine ⟨?_,?_,?_,?_,?_,?_⟩ <;> simp only [mS,jC,jZ,List.length_nil] at*<;> simp only [h.2,if_true] at*<;> omega
  split
  ·refine ⟨?_,?_,?_,?_,?_,?_⟩ <;> simp only [mS,jC,jZ,List.length_nil] at*<;> simp only [h.2,if_true] at*<;> omega
  split
  ·refine ⟨?_,?_,?_,?_,?_,?_⟩ <;> simp only [mS,jC,jZ,List.length_nil] at*<;> simp only [h.2,if_true] at*<;> omega
  refine ⟨?_,?_,?_,?_,?_,?_⟩ <;> simp only [mS,jC,jZ,List.length_nil] at*<;> simp only [h.2,if_true] at*<;> (try omega) <;> (simp;omega)
 refine ⟨?_,?_,?_,?_,?_,?_⟩ <;> simp only [mS,jC,jZ,List.length_nil] at*<;> simp only [h.2,if_true] at*<;> omega
def CZ:wm:=⟨0,[],[],0,0⟩
def lN (s:ByteArray):wm:=Ep s s.size CZ
def vQ (x:wm):Int:=if x.e=0∧9 < (x.pl:Int) then 9 else x.e
set_option maxHeartbeats 1000000 in
theorem aoX (G:GH) (NA Ny:OL) (w0:World) (b:Nat) (s:ByteArray) (p0 v0 q0:aj) (hR:Cc b [] [] p0 v0 q0 NA Ny) (hO:iT G (yG b s CZ p0 v0 q0 :: (NA++Ny)) w0) (hs:s.size≤1073741824) :
  Calls prog 225 #[(aP b 0)] w0 (iE w0 G (yG b s CZ p0 v0 q0 :: (NA++Ny)) fun u G' L'=>∃ p' v' q' rT jR,L'=iL b s (lN s).i p' v' q' (lN s).pl (vQ (lN s)) :: (rT++jR)∧Cc b [] (wH (lN s).lit (lN s).parts) p' v' q' rT jR):=by
 obtain ⟨A0,c0,rfl,-,-⟩:=hR.buf.shape;obtain ⟨B0,d0,rfl,-,-⟩:=hR.prt.shape;refine kS (N:=68) (T:=[(0,_)]) func225 rfl ntmps225 rfl rfl hO ?_;intro a H;refine aN (fun _ K1=>?_);refine uy ?_;skip;refine dV (ι:=Nat × wm × aj × Option Addr × Nat × Option Addr × Nat × OL × OL × GH) (Tc:=[(0,_)]) (Lc:=[]) (fun gh=>[]) (fun gh=>[yG b s gh.2.1 gh.2.2.1 (.slice gh.2.2.2.1 gh.2.1.lit.length gh.2.2.2.2.1) (.slice gh.2.2.2.2.2.1 gh.2.1.parts.length gh.2.2.2.2.2.2.1)]++(gh.2.2.2.2.2.2.2.1++gh.2.2.2.2.2.2.2.2.1)) (fun gh=>gh.2.2.2.2.2.2.2.2.2) (fun gh=>Cc b gh.2.1.lit gh.2.1.parts gh.2.2.1 (.slice gh.2.2.2.1 gh.2.1.lit.length gh.2.2.2.2.1) (.slice gh.2.2.2.2.2.1 gh.2.1.parts.length gh.2.2.2.2.2.2.1) gh.2.2.2.2.2.2.2.1 gh.2.2.2.2.2.2.2.2.1∧Ep s gh.1 gh.2.1=lN s∧mS s gh.2.1≤gh.1∧gh.1≤s.size∧gh.2.1.i≤s.size+3∧gh.2.1.lit.length≤gh.2.1.i∧gh.2.1.parts.length≤2*gh.2.1.i∧gh.2.1.pl≤gh.2.1.i) (fun gh=>gh.1) ((s.size,CZ,p0,A0,c0,B0,d0,NA,Ny,G)) (by exact (H).sub ⟨rfl,av⟩) ?_ ?_
 ·exact ⟨hR,rfl,by simp [mS,CZ],dB _,by simp [CZ],by simp [CZ],by simp [CZ],by simp [CZ]⟩
 clear H;rintro ⟨k,x,p,vA,vc,qA,qc,Lp,Lo,g⟩ a w hI H;dsimp only at hI H;obtain ⟨hR,hsc,hmk,hks,hxi,hx1,hx2,hx3⟩:=hI;dsimp only [lca,aO] at H;refine aN (fun _ K2=>?_);refine aN (fun _ K3=>?_)
 by_cases c0:(x.i:Int) < (s.size:Int)
 ·skip
  by_cases c1:x.e=0
  ·skip;refine dI hmx [[],[0],[0,1],[0,1,2],[],[4],[4,5],[4,5,6],(ra 4 4),(ra 0 9),(ra 0 10),(ra 0 11),(ra 0 12),(ra 0 13),(ra 0 14),(ra 0 15),(ra 0 16)] [] (by kernel_rfl) [_,_,_,vi x.i,_,_,_,.string s,_,_,_,_,(aP b 0),_,vi x.e,_,_] H (aI (Z0 rfl (Rm rfl)) (Z1 0 2 rfl (Rk rfl)) (Z1 1 3 rfl (Rf rC rfl)) (Z1 2 4 rfl (Ro aD 0 rfl)) (aI (Z0 rfl (Rm rfl)) (Z1 4 6 rfl (Rk rfl)) (Z1 5 7 rfl (Rf zk rfl)) (Z1 6 8 rfl (Ro gZ 0 rfl)) (aI (Z1 7 9 rfl (Rv iD rfl)) (Z2 3 5 8 10 rfl (Rc rfl)) (Z1 9 11 rfl (Rm rfl)) (Z1 10 12 rfl (YM (aG c0) rfl)) (aI ?_ (Z2 12 14 10 12 rfl (YF Co (aG c0) rfl)) (Z2 13 15 10 12 rfl (YO iO 0 (aG c0) rfl)) (Z2 14 16 10 12 rfl (YC (aG c0) rfl)) (bG (Z2 10 12 15 17 rfl (Pt (aG c0) rfl)) dQ))))) ?_
   ·refine fu 11 13 10 12 rfl rfl fun _ a w G1 hG HT H fin=>?_;refine uR H (wg H rfl rfl (aG c0)) rfl rfl ?_;clear H;intro a H;exact fin H iJ rfl
   clear H;intro a w G ZI H hv;have H:=H.bC (hv 16 18 rfl rfl) rfl;clear hv;refine aH ⟨rfl,?_⟩;refine K3 _ _ ?_;clear K3;refine AX H rfl (aG c1) ?_;refine kP H (Kc K2 (SB (SQ fun _ K4=>SQ fun _ K5=>?_)));clear H K2;intro a H;refine dI hmx [[],[0],[0,1],[0,1,2],[],[4],[4,5],[4,5,6],(ra 0 8),(ra 0 9)] [] (by kernel_rfl) [_,_,_,.string s,_,_,_,vi x.i,.int .u8 (jh s x.i),_] H (aI (Z0 rfl (Rm rfl)) (Z1 0 19 rfl (Rk rfl)) (Z1 1 20 rfl (Rf zk rfl)) (Z1 2 21 rfl (Ro gZ 0 rfl)) (aI (Z0 rfl (Rm rfl)) (Z1 4 23 rfl (Rk rfl)) (Z1 5 24 rfl (Rf rC rfl)) (Z1 6 25 rfl (Ro aD 0 rfl)) (bG ?_ (bG (Z1 8 27 rfl (Rc rfl)) dQ)))) ?_
   ·refine fu 3 22 7 26 rfl rfl fun _ a w G1 hG HT H fin=>?_;refine qw x.i iD H wn rfl rfl rfl (by omega) rfl ?_;clear H;intro a H;rw [← nV] at H;exact fin H iJ rfl
   clear H;intro a w G sH H hv;have H:=H.bC (hv 9 28 rfl rfl) rfl;clear hv;refine aH ⟨rfl,?_⟩;refine K5 _ _ ?_;clear K5;refine qG H rfl ?_ ?_
   ·intro iK
    try have p28:=dT iK
    refine kP H (SR fun _ K6=>Rm rfl ?_);clear H;intro a H;refine gW ahr (Li:=[]) (L:=yG b s x p (.slice vA x.lit.length vc) (.slice qA x.parts.length qc) :: (Lp++Lo)) H wn rfl (anJ _ Lp Lo _ b s x p _ _ hR (Hp.owns (Li:=[]) H.hp) (by omega) (by omega) (by omega) (by omega) (by omega)) rfl ?_;clear H;rintro v30 EC KQ a w ⟨p',v',q',rT,jR,rfl,OI⟩ Fx H;dsimp only [List.nil_append] at H;have hst:pQ s x=qp s x:=au p28;have hok:=adg s x ⟨by omega,c1⟩ hx1 hx2 hx3
    have hkk:k=(k - 1)+1:=by omega
    have UY:Ep s (k - 1) (pQ s x)=lN s:=by rw [hkk,Ep,au ⟨by omega,c1⟩] at hsc;exact hsc
    rw [← hst] at H OI;obtain ⟨WS,Yf,rfl,-,-⟩:=OI.buf.shape;obtain ⟨B30,d30,rfl,-,-⟩:=OI.prt.shape;refine K6 _ _ ?_;clear K6;refine dJ ?_;refine cB ((k - 1,pQ s x,p',WS,Yf,B30,d30,rT,jR,EC)) (by exact (H).sub ⟨rfl,av⟩) ?_ ?_
    ·(try dsimp only);exact ⟨OI,UY,by omega,by omega,by omega,by omega,by omega,by omega⟩
    first|omega|(dsimp only;omega)
   intro iK
   try have p28:=dF iK
   refine fT ?_;refine K4 _ _ ?_;clear K4;refine aN (fun _ K7=>?_);refine dI hmx [[],[0],[0,1],[],[3],[3,4],[3,4,5],[],[7],[7,8],[7,8,9],(ra 3 8),(ra 0 12)] [12] (by kernel_rfl) [_,_,_,_,_,_,.string s,_,_,_,vi x.i,.int .u8 (jh s x.i)] H (aI (Z0 rfl (Rm rfl)) (Z1 0 31 rfl (Rk rfl)) (Z1 1 32 rfl (Rf LV rfl)) (Z0 rfl (Rm rfl)) (aI (Z1 3 34 rfl (Rk rfl)) (Z1 4 35 rfl (Rf zk rfl)) (Z1 5 36 rfl (Ro gZ 0 rfl)) (Z0 rfl (Rm rfl)) (aI (Z1 7 38 rfl (Rk rfl)) (Z1 8 39 rfl (Rf rC rfl)) (Z1 9 40 rfl (Ro aD 0 rfl)) ?_ (bG (cZ rfl) dQ)))) ?_
   ·refine fu 6 37 10 41 rfl rfl fun _ a w G1 hG HT H fin=>?_;refine qw x.i iD H wn rfl rfl rfl (by omega) rfl ?_;clear H;intro a H;rw [← nV] at H;exact fin H iJ rfl
   clear H;intro a w G Me H hv;have H:=H.bC (hv 2 33 rfl rfl) rfl;have H:=H.bC (hv 11 42 rfl rfl) rfl;clear hv;refine gW Y3 (Li:=[]) (L:=yG b s x p (.slice vA x.lit.length vc) (.slice qA x.parts.length qc) :: (Lp++Lo)) H wn rfl (adT _ Lp Lo _ b s x.i p _ qA x.parts.length qc x.pl x.e x.lit.length _ (jh s x.i) hR.ptr (Hp.owns (Li:=[]) H.hp) hR.buf (by omega)) rfl ?_;clear H;rintro v43 _ L43 a w ⟨asS,KS,rfl,MI,rfl⟩ nO H;dsimp only [List.nil_append] at H;obtain ⟨Nj,NR,rfl,-,-⟩:=MI.shape;have hst:pQ s x=⟨x.i+1,x.lit++[NM s x.i],x.parts,x.pl,x.e⟩:=ah p28;have hok:=adg s x ⟨by omega,c1⟩ hx1 hx2 hx3
   have hkk:k=(k - 1)+1:=by omega
   have UY:Ep s (k - 1) (pQ s x)=lN s:=by rw [hkk,Ep,au ⟨by omega,c1⟩] at hsc;exact hsc
   have ajl:Cc b (pQ s x).lit (pQ s x).parts (aP b 2) (.slice Nj (pQ s x).lit.length NR) (.slice qA (pQ s x).parts.length qc) Lp KS:=by
    rw [hst];exact ⟨.inr rfl,by simpa [Lib.byteCells,aeP] using MI,hR.prt⟩
   refine aH ⟨rfl,?_⟩;refine K7 _ _ ?_;clear K7;refine kP H (SC (Rm rfl (Rk rfl (aR rC aD 0 rfl rfl (Rd rfl (Rk rfl (Rf rC rfl ?_)))))));clear H;intro a H;refine bT aD 0 (vs:=[_]) _ H wn rfl rfl rfl rfl rfl rfl rfl rfl ?_;clear H;intro w H;dsimp only [List.set,setRow] at H;replace H:St _ _ _ _ _ _ (yG b s (pQ s x) (aP b 2) (.slice Nj (pQ s x).lit.length NR) (.slice qA (pQ s x).parts.length qc) :: (Lp++KS)) _ _ _:=H.cast (by rw [hst];simp [yG,iL]);refine aH ?_;refine cB ((k - 1,pQ s x,(aP b 2),Nj,NR,qA,qc,Lp,KS,_)) (by exact (H).sub ⟨rfl,av⟩) ?_ ?_
   ·(try dsimp only);exact ⟨ajl,UY,by omega,by omega,by omega,by omega,by omega,by omega⟩
   first|omega|(dsimp only;omega)
  skip;refine dI hmx [[],[0],[0,1],[0,1,2],[],[4],[4,5],[4,5,6],(ra 4 4),(ra 0 9),(ra 0 10),(ra 0 11),(ra 0 12),(ra 0 13),(ra 0 14),(ra 0 15),(ra 0 16)] [] (by kernel_rfl) [_,_,_,vi x.i,_,_,_,.string s,_,_,_,_,(aP b 0),_,vi x.e,_,_] H (aI (Z0 rfl (Rm rfl)) (Z1 0 2 rfl (Rk rfl)) (Z1 1 3 rfl (Rf rC rfl)) (Z1 2 4 rfl (Ro aD 0 rfl)) (aI (Z0 rfl (Rm rfl)) (Z1 4 6 rfl (Rk rfl)) (Z1 5 7 rfl (Rf zk rfl)) (Z1 6 8 rfl (Ro gZ 0 rfl)) (aI (Z1 7 9 rfl (Rv iD rfl)) (Z2 3 5 8 10 rfl (Rc rfl)) (Z1 9 11 rfl (Rm rfl)) (Z1 10 12 rfl (YM (aG c0) rfl)) (aI ?_ (Z2 12 14 10 12 rfl (YF Co (aG c0) rfl)) (Z2 13 15 10 12 rfl (YO iO 0 (aG c0) rfl)) (Z2 14 16 10 12 rfl (YC (aG c0) rfl)) (bG (Z2 10 12 15 17 rfl (Pt (aG c0) rfl)) dQ))))) ?_
  ·refine fu 11 13 10 12 rfl rfl fun _ a w G1 hG HT H fin=>?_;refine uR H (wg H rfl rfl (aG c0)) rfl rfl ?_;clear H;intro a H;exact fin H iJ rfl
  clear H;intro a w G ZI H hv;have H:=H.bC (hv 16 18 rfl rfl) rfl;clear hv;refine aH ⟨rfl,?_⟩;refine K3 _ _ ?_;clear K3;refine oF H rfl (aQ c1) ?_;refine dJ ?_;refine K1 _ _ ?_;clear K1;refine aN (fun _ K8=>?_)
  have U7:x=lN s:=by
   rw [acO (by first|exact fun h=>c0 (by omega)|exact fun h=>c1 h.2)] at hsc;exact hsc
  subst U7;refine kP H (SC (Rm rfl ?_));clear H;intro a H;refine gW RO (Li:=[]) (L:=yG b s (lN s) p (.slice vA (lN s).lit.length vc) (.slice qA (lN s).parts.length qc) :: (Lp++Lo)) H wn rfl (SA _ Lp Lo _ b s (lN s).i p _ _ (lN s).pl (lN s).e (lN s).lit (lN s).parts hR (Hp.owns (Li:=[]) H.hp) (by omega) (by omega)) rfl ?_;clear H;rintro v52 Nt L52 a w ⟨p52,aqo,q52,aeC,aew,rfl,uK⟩ Uy H;dsimp only [List.nil_append] at H;obtain ⟨A52,c52,rfl,-,-⟩:=uK.buf.shape;obtain ⟨B52,d52,rfl,-,-⟩:=uK.prt.shape;refine kH H (Kn K8 (SR fun _ K9=>Rm rfl (Rk rfl (aR Co iO 0 rfl rfl (Rc rfl (Rm rfl (Sp 58 rfl ?_ ?_))))))) <;> clear H K8
  ·intro ji a H
   try have p58:=dT ji
   refine kH H (YM ji rfl ?_);clear H;intro a H;refine uR H (wg H rfl rfl ji) rfl rfl ?_;clear H;intro a H;refine kH H (YF Oo ji rfl (YO aD 0 ji rfl (YC ji rfl (Pt ji rfl (Kz K9 (Cd rfl ?_ ?_)))))) <;> clear H K9
   ·intro h64 a H
    try have p64:=dT h64
    refine kP H (SC (Rm rfl (Rk rfl (Rf Co rfl ?_))));clear H;intro a H;refine bT iO 0 (vs:=[_]) _ H wn rfl rfl rfl rfl rfl rfl rfl rfl ?_;clear H;intro w H;dsimp only [List.set,setRow] at H;refine aH ?_;refine (leave0 H results225 ?_).2
    first
     | exact H.hp.gB ⟨_,_,_,_,_,by rw [vQ,au ⟨by assumption,by assumption⟩],uK⟩
     | exact H.hp.gB ⟨_,_,_,_,_,by rw [vQ,ah (by first|exact fun h=>p58 h.1|exact fun h=>p64 h.2)],uK⟩
   intro h64 a H
   try have p64:=dF h64
   refine fT ?_;refine (leave0 H results225 ?_).2
   first
    | exact H.hp.gB ⟨_,_,_,_,_,by rw [vQ,au ⟨by assumption,by assumption⟩],uK⟩
    | exact H.hp.gB ⟨_,_,_,_,_,by rw [vQ,ah (by first|exact fun h=>p58 h.1|exact fun h=>p64 h.2)],uK⟩
  intro ji a H
  try have p58:=dF ji
  refine kH H (aZ ji rfl (aT ji rfl (Pf ji rfl (Kz K9 (Cf rfl rfl ?_)))));clear H K9;intro a H;refine fT ?_;refine (leave0 H results225 ?_).2
  first
   | exact H.hp.gB ⟨_,_,_,_,_,by rw [vQ,au ⟨by assumption,by assumption⟩],uK⟩
   | exact H.hp.gB ⟨_,_,_,_,_,by rw [vQ,ah (by first|exact fun h=>p58 h.1|exact fun h=>p64 h.2)],uK⟩
 skip;refine dI hmx [[],[0],[0,1],[0,1,2],[],[4],[4,5],[4,5,6],(ra 4 4),(ra 0 9),(ra 0 10),(ra 0 11),(ra 0 12),(ra 0 13),(ra 0 14),(ra 0 15),(ra 0 16)] [] (by kernel_rfl) [_,_,_,vi x.i,_,_,_,.string s,_,_,_,undef,undef,undef,undef,undef,_] H (aI (Z0 rfl (Rm rfl)) (Z1 0 2 rfl (Rk rfl)) (Z1 1 3 rfl (Rf rC rfl)) (Z1 2 4 rfl (Ro aD 0 rfl)) (aI (Z0 rfl (Rm rfl)) (Z1 4 6 rfl (Rk rfl)) (Z1 5 7 rfl (Rf zk rfl)) (Z1 6 8 rfl (Ro gZ 0 rfl)) (aI (Z1 7 9 rfl (Rv iD rfl)) (Z2 3 5 8 10 rfl (Rc rfl)) (Z1 9 11 rfl (Rm rfl)) (aV (j:=10) (by kernel_rfl) (fun _ _ _ _ _ h=>h) rfl rfl rfl rfl rfl (fun _ _ h=>aW h (aM (aQ c0))) rfl (fun _=>rfl)) (aI (aV (j:=10) (by kernel_rfl) (fun _ _ _ _ _ h=>h) rfl rfl rfl rfl rfl (fun _ _ h=>aW h (aM (aQ c0))) rfl (fun _=>rfl)) (aV (j:=10) (by kernel_rfl) (fun _ _ _ _ _ h=>h) rfl rfl rfl rfl rfl (fun _ _ h=>aW h (aM (aQ c0))) rfl (fun _=>rfl)) (aV (j:=10) (by kernel_rfl) (fun _ _ _ _ _ h=>h) rfl rfl rfl rfl rfl (fun _ _ h=>aW h (aM (aQ c0))) rfl (fun _=>rfl)) (aV (j:=10) (by kernel_rfl) (fun _ _ _ _ _ h=>h) rfl rfl rfl rfl rfl (fun _ _ h=>aW h (aM (aQ c0))) rfl (fun _=>rfl)) (bG (Z2 10 12 15 17 rfl (Pf (aQ c0) rfl)) dQ))))) ?_
 clear H;intro a w G ZI H hv;have H:=H.bC (hv 16 18 rfl rfl) rfl;clear hv;refine aH ⟨rfl,?_⟩;refine K3 _ _ ?_;clear K3;refine oF H rfl rfl ?_;refine dJ ?_;refine K1 _ _ ?_;clear K1;refine aN (fun _ aU=>?_)
 have U7:x=lN s:=by
  rw [acO (by first|exact fun h=>c0 (by omega)|exact fun h=>c1 h.2)] at hsc;exact hsc
 subst U7;refine kP H (SC (Rm rfl ?_));clear H;intro a H;refine gW RO (Li:=[]) (L:=yG b s (lN s) p (.slice vA (lN s).lit.length vc) (.slice qA (lN s).parts.length qc) :: (Lp++Lo)) H wn rfl (SA _ Lp Lo _ b s (lN s).i p _ _ (lN s).pl (lN s).e (lN s).lit (lN s).parts hR (Hp.owns (Li:=[]) H.hp) (by omega) (by omega)) rfl ?_;clear H;rintro v52 Nt L52 a w ⟨p52,aqo,q52,aeC,aew,rfl,uK⟩ Uy H;dsimp only [List.nil_append] at H;obtain ⟨A52,c52,rfl,-,-⟩:=uK.buf.shape;obtain ⟨B52,d52,rfl,-,-⟩:=uK.prt.shape;refine kH H (Kn aU (SR fun _ bD=>Rm rfl (Rk rfl (aR Co iO 0 rfl rfl (Rc rfl (Rm rfl (Sp 58 rfl ?_ ?_))))))) <;> clear H aU
 ·intro ji a H
  try have p58:=dT ji
  refine kH H (YM ji rfl ?_);clear H;intro a H;refine uR H (wg H rfl rfl ji) rfl rfl ?_;clear H;intro a H;refine kH H (YF Oo ji rfl (YO aD 0 ji rfl (YC ji rfl (Pt ji rfl (Kz bD (Cd rfl ?_ ?_)))))) <;> clear H bD
  ·intro h64 a H
   try have p64:=dT h64
   refine kP H (SC (Rm rfl (Rk rfl (Rf Co rfl ?_))));clear H;intro a H;refine bT iO 0 (vs:=[_]) _ H wn rfl rfl rfl rfl rfl rfl rfl rfl ?_;clear H;intro w H;dsimp only [List.set,setRow] at H;refine aH ?_;refine (leave0 H results225 ?_).2
   first
    | exact H.hp.gB ⟨_,_,_,_,_,by rw [vQ,au ⟨by assumption,by assumption⟩],uK⟩
    | exact H.hp.gB ⟨_,_,_,_,_,by rw [vQ,ah (by first|exact fun h=>p58 h.1|exact fun h=>p64 h.2)],uK⟩
  intro h64 a H
  try have p64:=dF h64
  refine fT ?_;refine (leave0 H results225 ?_).2
  first
   | exact H.hp.gB ⟨_,_,_,_,_,by rw [vQ,au ⟨by assumption,by assumption⟩],uK⟩
   | exact H.hp.gB ⟨_,_,_,_,_,by rw [vQ,ah (by first|exact fun h=>p58 h.1|exact fun h=>p64 h.2)],uK⟩
 intro ji a H
 try have p58:=dF ji
 refine kH H (aZ ji rfl (aT ji rfl (Pf ji rfl (Kz bD (Cf rfl rfl ?_)))));clear H bD;intro a H;refine fT ?_;refine (leave0 H results225 ?_).2
 first
  | exact H.hp.gB ⟨_,_,_,_,_,by rw [vQ,au ⟨by assumption,by assumption⟩],uK⟩
  | exact H.hp.gB ⟨_,_,_,_,_,by rw [vQ,ah (by first|exact fun h=>p58 h.1|exact fun h=>p64 h.2)],uK⟩
end
section
open Go.RowKit
def BS (c:Int):List Dat:=[.lf (.int .u8 c)]
theorem adq {G:GH} {c:Int} {cs:List aj} (h:bM G (BS c) cs):cs=[.int .u8 c]:=by
 simp only [BS,bM,aB] at h
 obtain ⟨_,_,rfl,⟨rfl,_⟩,rfl⟩:=h
 rfl
def Jf (s:ByteArray):List Int:=s.data.toList.map fun b=>(b.toNat:Int)
theorem afe (G:GH) (l:List Int):gP G 1 (l.map BS) (l.map fun c=>Value.int .u8 c):=by
 refine ⟨l.map fun c=>[.int .u8 c],by induction l with|nil=>rfl|cons x r ih=>simp [ih],by simp,fun j r cs hr hc=>?_⟩
 rw [oQ] at hr hc
 obtain ⟨x,hx,rfl⟩:=oD.1 hr
 rw [hx] at hc
 cases hc
 exact ⟨by simp only [BS,bM];exact ⟨_,_,rfl,by simp [aB,Value.oneCell'],rfl⟩,rfl⟩
theorem aoo {G:GH} {sz b o n cap:Nat} {cur:Array aj} {e:TypeId} {fz:Nat × Nat} {rows:List (List Dat)} (hb:G b=some (.cells cur e fz)) (h:aB (fun k=>if k=b then some (.cells cur e (0,0)) else G k) (.sl sz rows) (.slice (some ⟨b,o,none⟩) n cap)) (hr:∀ r∈rows,∃ c,r=BS c):aB G (.sl sz rows) (.slice (some ⟨b,o,none⟩) n cap):=by
 simp only [aB] at h ⊢
 obtain ⟨A,c,h1,h2,h3,h4⟩:=h
 refine ⟨A,c,h1,h2,h3,fun hn=>?_⟩
 obtain ⟨b',o',e',hrr⟩:=h4 hn
 injection h1 with e1
 subst e1
 injection e' with e2
 injection e2 with e3 e4
 subst e3;subst e4
 refine ⟨_,_,rfl,nE.mk fun k r hk=>?_⟩
 obtain ⟨cs,g1,g2,g3⟩:=hrr.get hk
 refine ⟨cs,g1,fun j u hj=>?_,?_⟩
 ·have:=g2 j u hj
  unfold aF at this ⊢
  simp only [if_true] at this
  rw [hb];exact this
 ·obtain ⟨c,rfl⟩:=hr r (nH hk)
  have:=adq g3
  subst this
  simp only [BS,bM];exact ⟨_,_,rfl,by simp [aB,Value.oneCell'],rfl⟩
section
variable {N:Nat} {D:List Deferred} {w0:World} {F:Nat→Prop} {G0 G:GH} {L:OL} {T:List (Nat × aj)}
variable {r:Option Nat} {P:Program} {ops:Array Oper} {Q:Exit→Act→World→Prop} {rest:List Oper} {a:Act} {w:World}
variable {d:Nat} {ty:TypeId} {pos:String} {aS:Array Edge} {g:Option (Nat × Bool)}
theorem aqi {w:World} {b o n:Nat} {c:Array aj} {e:TypeId} {fz:Nat × Nat} (h:w.heap[b]?=some (.cells c e fz)) (hn:n≠0):∃ Hf,xM b (.cells c e Hf) w (w.freeze ⟨b,o,none⟩ n):=by
 unfold World.freeze
 rw [ah hn]
 refine ⟨if fz.1 == fz.2 then (o,o+n) else (min fz.1 o,max fz.2 (o+n)),rfl,rfl,rfl,by simp,?_,fun k hk=>?_⟩
 ·simp [Array.getElem?_modify,h]
 ·simp [Array.getElem?_modify,Ne.symm hk]
theorem aoH {t u e:TypeId} {x:Operand} {s:ByteArray} (ht:P.underlying t=some .string) (hu:P.underlying u=some (.slice e)) (he:P.underlying e=some (.int .u8)) (H:St N D w0 F G0 G L T a w) (hw:Region.wanted ⟨some d,.convert t u x,ty,pos,aS,g⟩ (yielded ops a.tmps)=true) (hx:ev T x=some (.string s)) (hz:s.size≤4294967296) (hd:Nat.blt d N=true)
  (k:∀ v G' a' w',(∀ k o,G k=some o→G' k=some o)→aB G' (.sl 1 ((Jf s).map BS)) v→St N D w0 F G0 G' L ((d,v) :: T) a' w'→WL r P ops Q rest a' w'):WL r P ops Q (⟨some d,.convert t u x,ty,pos,aS,g⟩ :: rest) a w:=by
 have hc:=Lib.run_convert_string_bytes (P:=P) w t u e s ht hu he
 have hge:=grownCap_ge w s.size 0 e
 have hml:s.size≤maxLen:=by
  have:maxLen=9223372036854775807:=rfl
  omega
 have hgm:=grownCap_le_maxLen w s.size 0 e hml
 have H1:=H.hp.drew.alloc (.cells (Lib.bytesCells w e s) e)
 have hw1:(w.drew.alloc (.cells (Lib.bytesCells w e s) e)).heap[w.drew.heap.size]?=some (.cells (Lib.bytesCells w e s) e (0,0)):=H1.own _ jg
 obtain ⟨fz,hu2⟩:=aqi (o:=(Lib.bytesCells w e s).size) (n:=1) hw1 (by decide)
 have H2:=H1.upd (i:=0) rfl hu2
 have H3:St N D w0 F G0 G ((w.heap.size,.cells (Lib.bytesCells w e s) e fz) :: L) ((d,.slice (some ⟨w.heap.size,0,none⟩) s.size (grownCap w s.size 0 e)) :: T) (a.put (some d) (.slice (some ⟨w.heap.size,0,none⟩) s.size (grownCap w s.size 0 e))) (Lib.bytesWorld w e s):=H.put hd _ H2
 obtain ⟨G',hm,hb,H4⟩:=H3.eD
 have hlen:(Jf s).length=s.size:=by rw [Jf,bN,yT];rfl
 have hrep:aB G' (.sl 1 ((Jf s).map BS)) (.slice (some ⟨w.heap.size,0,none⟩) s.size (grownCap w s.size 0 e)):=by
  refine aoo hb ?_ (fun r hr=>by obtain ⟨c,-,rfl⟩:=List.mem_map.1 hr;exact ⟨c,rfl⟩)
  refine aB.fC (cur:=Lib.bytesCells w e s) (e:=e) (n:=s.size) (cap:=grownCap w s.size 0 e) (by simp) (by rw [bN,hlen]) hge hgm ?_ (afe _ _)
  rw [Lib.bytesCells,Array.toList_append,Nat.mul_one,List.take_left' (by rw [Array.toList_map,bN,yT];rfl)]
  simp [Jf]
 have k2:=k _ _ _ _ hm hrep H4
 refine ig (v:=.slice (some ⟨w.heap.size,0,none⟩) s.size (grownCap w s.size 0 e)) (w':=Lib.bytesWorld w e s) hw rfl ?_ k2
 simp only [execOp,H.ev hx,eY,hc,pY,uj]
theorem acI {t yt:TypeId} {x y:Operand} {p q:ByteArray} (H:St N D w0 F G0 G L T a w) (hw:Region.wanted ⟨some d,.binOp .lss t x y yt,ty,pos,aS,g⟩ (yielded ops a.tmps)=true) (hx:ev T x=some (.string p)) (hy:ev T y=some (.string q)) (hd:Nat.blt d N=true)
  (k:∀ a',St N D w0 F G0 G L ((d,.bool (Op.bytesLess p.toList q.toList)) :: T) a' w→WL r P ops Q rest a' w):WL r P ops Q (⟨some d,.binOp .lss t x y yt,ty,pos,aS,g⟩ :: rest) a w:=by
 refine ig (v:=.bool (Op.bytesLess p.toList q.toList)) (w':=w) hw rfl ?_ (k _ (H.put hd _ H.hp))
 simp [execOp,H.ev hx,H.ev hy,eY,eqGuard,binOp,Op.stringOp]
end
end
section
open Go.RowKit
theorem ahq:∀ args w,(callFunc 233 args).run prog w=.ok (.enter 233 args) w:=enters func233 rfl (by kernel_rfl)
theorem ahn:∀ args w,(callFunc 225 args).run prog w=.ok (.enter 225 args) w:=enters func225 rfl (by kernel_rfl)
theorem ahl:∀ args w,(callFunc 223 args).run prog w=.ok (.enter 223 args) w:=enters func223 rfl (by kernel_rfl)
theorem apF:ug prog 289 [(0,1),(1,1),(2,2),(4,1),(5,1),(6,1)] [.string ⟨#[]⟩,.int .i64 0,.pointer none,.slice none 0 0,.slice none 0 0,.int .i64 0,.int .i64 0]:=⟨by kernel_rfl,by kernel_rfl⟩
theorem aho:∀ args w,(callFunc 226 args).run prog w=.ok (.enter 226 args) w:=enters func226 rfl (by kernel_rfl)
theorem aii:dL prog 258 1 1:=⟨by kernel_rfl⟩
theorem agZ:∀ args w,(callFunc 199 args).run prog w=.ok (.enter 199 args) w:=enters func199 rfl (by kernel_rfl)
theorem ahb:∀ args w,(callFunc 200 args).run prog w=.ok (.enter 200 args) w:=enters func200 rfl (by kernel_rfl)
theorem ahm:∀ args w,(callFunc 224 args).run prog w=.ok (.enter 224 args) w:=enters func224 rfl (by kernel_rfl)
theorem ahc:∀ args w,(callFunc 201 args).run prog w=.ok (.enter 201 args) w:=enters func201 rfl (by kernel_rfl)
def QW (fv:aj) (G:GH) (c:Int) (b:Bool):Prop:=∀ (G1:GH) (w1:World),(∀ b o,G b=some o→G1 b=some o)→Hold G1 w1→yN prog fv [.int .u8 c] w1 (bV w1 G1 fun u G'=>u=.bool b)
theorem amc (G:GH) (w0:World) (hG:Hold G w0) (l:List Int) (p:Int→Bool) (v fv:aj) (hv:aB G (.sl 1 (l.map BS)) v) (hf:∀ c∈l,QW fv G c (p c)) :
  Calls prog 233 #[v,fv] w0 (bV w0 G fun u G'=>u=vi (qN (l.findIdx? p))):=by
 obtain ⟨A,c,rfl,hc1,hc2,hg⟩:=hv.slice;have hml:maxLen=9223372036854775807:=rfl;rw [bN] at *;refine eN [(0,_),(1,_)] func233 rfl ntmps233 rfl rfl hG ?_;intro a H;refine kP H (SR fun _ K1=>ak K1 rfl (SQ fun _ K2=>SR fun _ K3=>Rm rfl (Rl IK rfl (Rm rfl (Kz K3 (SB ?_))))));clear H K1 K3;intro a H;skip;refine dV (ι:=Nat × GH) (Tc:=[(0,_),(1,_),(7,_)]) (Lc:=[]) (fun gh=>[(8,vi gh.1)]) (fun gh=>[]) (fun gh=>gh.2) (fun gh=>gh.1≤l.length∧(l.take gh.1).findIdx? p=none∧(∀ b o,G b=some o→gh.2 b=some o)) (fun gh=>l.length - gh.1) ((0,G)) (by exact (H).sub ⟨rfl,rfl,rfl,rfl,av⟩) ?_ ?_
 ·exact ⟨by omega,rfl,fun _ _ h=>h⟩
 clear H;rintro ⟨k,g⟩ a w hI H;dsimp only at hI H;obtain ⟨hk,hno,hgm⟩:=hI;dsimp only [lca,aO] at H;refine kP H (SR fun _ K4=>Rc rfl (Kz K4 (SQ fun _ K5=>Cd rfl ?_ ?_))) <;> clear H K4
 ·intro h9 a H
  try have p9:=dT h9
  have hk2:k < l.length:=by omega
  obtain ⟨b,o,cs,rfl,hcl,hrow,hr⟩:=hg k (BS l[k]) (by simp [hk2]);obtain rfl:=adq hr
  have hcell:aF G b (o+k*1)=some (.int .u8 l[k]):=by simpa using hrow 0 _ rfl
  refine kP H (Kc K5 (SQ fun _ K6=>SB (SR fun _ K7=>Rm rfl (ak K7 rfl (SR fun _ K8=>Rm rfl (Rm rfl (Rm rfl (Ri IK Qo rfl rfl (Rg Qo rfl (aJ hgm hcell) ?_)))))))));clear H K5 K7;intro a H;refine vP H wn rfl rfl (hf _ (jD hk2) _ _ hgm H.ro) rfl ?_;clear H;rintro v16 zV a w rfl Ak H;refine K8 _ _ ?_;clear K8;refine qG H rfl ?_ ?_
  ·intro h16
   try have p16:=dT h16
   refine kP H (SR fun _ K9=>Rm rfl (ak K9 rfl ?_));clear H K9;intro a H;refine lr H results233 rfl ?_
   first
    | exact H.rt (by rw [zy hk2 hno h16];rfl)
    | exact H.rt (by rw [show l.take k=l from mF (by omega)] at hno;rw [hno];rfl)
  intro h16
  try have p16:=dF h16
  refine kP H (Kc K6 (SC (Rd rfl (Rm rfl ?_))));clear H K6;intro a H;refine aH ?_;refine cB ((k+1,zV)) (by exact (H).sub ⟨rfl,rfl,rfl,rfl,av⟩) ?_ ?_
  ·(try dsimp only);exact ⟨by omega,Ih hk2 hno h16,fun b o h=>Ak b o (hgm b o h)⟩
  first|omega|(dsimp only;omega)
 intro h9 a H
 try have p9:=dF h9
 refine dJ ?_;refine K2 _ _ ?_;clear K2;refine kP H (SR fun _ aU=>ak aU rfl ?_);clear H aU;intro a H;refine lr H results233 rfl ?_
 first
  | exact H.rt (by rw [zy hk2 hno h16];rfl)
  | exact H.rt (by rw [show l.take k=l from mF (by omega)] at hno;rw [hno];rfl)
theorem Vg (o:Option Nat):decide (0≤qN o)=o.isSome:=by cases o <;> simp [qN]
theorem afZ (G:GH) (w0:World) (hG:Hold G w0) (l:List Int) (p:Int→Bool) (v fv:aj) (hv:aB G (.sl 1 (l.map BS)) v) (hf:∀ c∈l,QW fv G c (p c)) :
  Calls prog 223 #[v,fv] w0 (bV w0 G fun u G'=>u=.bool (l.findIdx? p).isSome):=by
 obtain ⟨A,c,rfl,hc1,hc2,-⟩:=hv.slice;rw [bN] at *;refine eN [(0,_),(1,_)] func223 rfl ntmps223 rfl rfl hG ?_;intro a H;refine kP H (SR fun _ K1=>ak K1 rfl (SR fun _ K2=>Rm rfl (Rm rfl ?_)));clear H K1;intro a H;refine s_call ahq H wn rfl (amc _ _ H.ro l p _ _ hv hf) rfl ?_;clear H;rintro v7 G7 a w rfl yh H;exact kH H (Rc rfl (ak K2 rfl (LR results223 rfl fun H=>H.rt (aM (Vg _)))))
def LA (c:Int):Bool:=decide (c < 32) || decide (c=127)
theorem aga (G:GH) (c:Int):QW (.func (.func 224) #[] #[]) G c (LA c):=by
 intro G1 w0 hm hG;refine nk (caps:=[]) ahm ?_;refine eN [(0,_)] func224 rfl ntmps224 rfl rfl hG ?_;intro a H;refine kP H (SR fun _ K1=>ak K1 rfl (SR fun _ K2=>Rm rfl (Rc rfl (Rm rfl (Sp 5 rfl ?_ ?_))))) <;> clear H K1
 ·intro h5 a H
  try have p5:=dT h5
  exact kH H (aT h5 rfl (Pt h5 rfl (ak K2 rfl (LR results224 rfl fun H=>H.rt (aM (by unfold LA;first|(simp_all;done)|(simp_all;omega)))))))
 intro h5 a H
 try have p5:=dF h5
 exact kH H (YM h5 rfl (YC h5 rfl (Pf h5 rfl (ak K2 rfl (LR results224 rfl fun H=>H.rt (aM (by unfold LA;first|(simp_all;done)|(simp_all;omega))))))))
def zJ (t:ByteArray):Int:=if 64 < t.size then 10 else if qW t=false then 12 else if ((Jf t).findIdx? LA).isSome=true then 5 else vQ (lN t)
def Au (t:ByteArray):List jS:=if zJ t=0 then wH (lN t).lit (lN t).parts else []
theorem amB (G:GH) (l:List jS):gP G 3 (l.map jS.dat) (FH l):=by
 refine ⟨l.map jS.cells,rfl,by simp,fun j r cs hr hc=>?_⟩;rw [oQ] at hr hc;obtain ⟨x,hx,rfl⟩:=oD.1 hr;rw [hx] at hc
 cases hc
 exact ⟨abH G x,rfl⟩
theorem anI (G:GH) (w0:World) (hG:Hold G w0) (t:ByteArray) (ht:t.size < 4611686018427387904) :
  Calls prog 199 #[.string t] w0 (bV w0 G fun u G'=>∃ x,u=.tuple #[x,vi (zJ t)]∧aB G' (.sl 3 ((Au t).map jS.dat)) x):=by
 refine eN [(0,_)] func199 rfl ntmps199 rfl rfl hG ?_;intro a H;refine kP H (SR fun _ K1=>Ra rfl (ak K1 rfl (SQ fun _ K2=>SB (SR fun _ K3=>Rm rfl (Rv iD rfl (Rc rfl (ak K3 rfl (Cd rfl ?_ ?_)))))))) <;> clear H K1 K3
 ·intro h5 a H
  try have p5:=dT h5
  refine aN (fun _ K4=>?_)
  have he:zJ t=10:=by rw [zJ,au (by omega)]
  refine kP H (SC (Ra rfl (aL K4 rfl ?_)));clear H K4;intro a H;refine dK ?_;refine (gY H results199 (.cons (bF H rfl) (.cons (bF H rfl) .nil)) ?_).1
  first
   | exact H.rt ⟨_,by rw [he0],by rw [Au,au he0];exact hrep⟩
   | exact H.rt ⟨_,by rw [he],by rw [Au,ah (by rw [he];first|decide|assumption)];exact aB.lM rfl (by decide)⟩
 intro h5 a H
 try have p5:=dF h5
 refine kP H (SR fun _ K5=>Rm rfl ?_);clear H;intro a H;refine s_call E8 H wn rfl (FY _ _ H.ro t ht) rfl ?_;clear H;rintro v11 _ a w ⟨rfl,rfl⟩ - H;refine kH H (Rn rfl (ak K5 rfl (Cd rfl ?_ ?_))) <;> clear H K5
 ·intro h9 a H
  try have p9:=dT h9
  refine aN (fun _ K6=>?_)
  have he:zJ t=12:=by rw [zJ,ah (by omega),au (by simpa using h9)]
  refine kP H (SC (Ra rfl (aL K6 rfl ?_)));clear H K6;intro a H;refine dK ?_;refine (gY H results199 (.cons (bF H rfl) (.cons (bF H rfl) .nil)) ?_).1
  first
   | exact H.rt ⟨_,by rw [he0],by rw [Au,au he0];exact hrep⟩
   | exact H.rt ⟨_,by rw [he],by rw [Au,ah (by rw [he];first|decide|assumption)];exact aB.lM rfl (by decide)⟩
 intro h9 a H
 try have p9:=dF h9
 refine kP H (SR fun _ K7=>Rm rfl ?_);clear H;intro a H;refine aoH iD IK Nh H wn rfl (by omega) rfl ?_;clear H;intro v15 EB a w vM aaU H;obtain ⟨A15,c15,rfl,-,-,-⟩:=aaU.slice;refine s_call ahl H wn rfl (afZ _ _ H.ro _ LA _ _ aaU (fun c _=>aga _ c)) rfl ?_;clear H;rintro v16 zV a w rfl Ak H;refine kH H (ak K7 rfl (Cd rfl ?_ ?_)) <;> clear H K7
 ·intro eO a H
  try have nZ:=dT eO
  refine aN (fun _ K8=>?_)
  have he:zJ t=5:=by rw [zJ,ah (by omega),ah (by simpa using h9),au eO]
  refine kP H (SC (Ra rfl (aL K8 rfl ?_)));clear H K8;intro a H;refine dK ?_;refine (gY H results199 (.cons (bF H rfl) (.cons (bF H rfl) .nil)) ?_).1
  first
   | exact H.rt ⟨_,by rw [he0],by rw [Au,au he0];exact hrep⟩
   | exact H.rt ⟨_,by rw [he],by rw [Au,ah (by rw [he];first|decide|assumption)];exact aB.lM rfl (by decide)⟩
 intro eO a H
 try have nZ:=dF eO
 refine kP H (Kc K2 (SR fun _ K9=>Rm rfl ?_));clear H K2;intro a H;refine mq apF [_,_,_,_,_,_,_] H wn rfl rfl rfl rfl ?_;clear H;intro a H;refine fD (cs:=[_,_,_,_,_,_,_]) H wn rfl rfl rfl ?_;clear H;intro b19 a w ajA H;refine kH H (ak K9 rfl (SQ fun _ aU=>SR fun _ bD=>Rm rfl ?_));clear H K9;intro a H;refine gW ahn (Li:=[]) (L:=[yG b19 t CZ (.pointer none) (.slice none 0 0) (.slice none 0 0)]) H wn rfl (aoX _ [] [] _ b19 t _ _ _ ⟨.inl rfl,gJ.nil,gJ.nil⟩ (Hp.owns (Li:=[]) H.hp) (by omega)) rfl ?_;clear H;rintro v21 W9 L21 a w ⟨p',v',q',rT,jR,rfl,TP⟩ D8 H;dsimp only [List.nil_append] at H;obtain ⟨A21,c21,rfl,-,-⟩:=TP.buf.shape;obtain ⟨B21,d21,rfl,-,-⟩:=TP.prt.shape;refine bD _ _ ?_;clear bD;refine aN (fun _ bE=>?_)
 have he:zJ t=vQ (lN t):=by rw [zJ,ah (by omega),ah (by simpa using h9),ah (by simp [eO])]
 refine kP H (SC (Rm rfl (Rk rfl (aR Co iO 0 rfl rfl (Rc rfl (Kn bE (Cd rfl ?_ ?_))))))) <;> clear H bE
 ·intro fE a H
  try have p26:=dT fE
  refine aN (fun _ bQ=>?_);have H:=H.sub (T':=[(4,_)]) ⟨rfl,av⟩;refine dI hmx [[],[0],[0,1],[0,1,2],[],(ra 0 5)] [] (by kernel_rfl) [_,_,_,vi (vQ (lN t)),_,_] H (aI (Z0 rfl (Rm rfl)) (Z1 0 27 rfl (Rk rfl)) (Z1 1 28 rfl (Rf Co rfl)) (Z1 2 29 rfl (Ro iO 0 rfl)) (bG (Z0 rfl (Ra rfl)) (bG (Z1 3 30 rfl (Ra rfl)) dQ))) ?_
  clear H;intro a w G vI H hv;have H:=H.bC (hv 4 2 rfl rfl) rfl;have H:=H.bC (hv 5 3 rfl rfl) rfl;clear hv;refine aH ⟨rfl,?_⟩;refine bQ _ _ ?_;clear bQ;refine dK ?_;refine (gY H results199 (.cons (bF H rfl) (.cons (bF H rfl) .nil)) ?_).1
  first
   | exact H.rt ⟨_,by rw [he0],by rw [Au,au he0];exact hrep⟩
   | exact H.rt ⟨_,by rw [he],by rw [Au,ah (by rw [he];first|decide|assumption)];exact aB.lM rfl (by decide)⟩
 intro fE a H
 try have p26:=dF fE
 refine fT ?_;refine aU _ _ ?_;clear aU;refine aN (fun _ bR=>?_)
 have he0:zJ t=0:=by rw [he];omega
 have H:=(St.cast H (show _=[_]++(rT++jR) from rfl)).perm (List.Perm.append_left _ qZ);have H:=St.un H;obtain ⟨Gr,hmr,hrep,H⟩:=St.DL (Li:=[_]++jR) (Lo:=rT) H TP.prt (rows:=(wH (lN t).lit (lN t).parts).map jS.dat) (by simp) (amB _ _);dsimp only [lca,aO] at H;refine kP H (SC (Rm rfl (Rk rfl (aR LW M9 0 rfl rfl (Ra rfl (aL bR rfl ?_))))));clear H bR;intro a H;refine dK ?_;refine (gY H results199 (.cons (bF H rfl) (.cons (bF H rfl) .nil)) ?_).1
 first
  | exact H.rt ⟨_,by rw [he0],by rw [Au,au he0];exact hrep⟩
  | exact H.rt ⟨_,by rw [he],by rw [Au,ah (by rw [he];first|decide|assumption)];exact aB.lM rfl (by decide)⟩
structure qC where
 fmt:Int
 start:Int
 BR:ByteArray
 restart:Int
def qC.dat (x:qC):List Dat:=[li x.fmt,li x.start,.lf (.string x.BR),li x.restart]
abbrev qC.cells (x:qC):List aj:=[vi x.fmt,vi x.start,.string x.BR,vi x.restart]
theorem amD {G:GH} {x:qC} {cs:List aj} (h:bM G x.dat cs):cs=x.cells:=by
 simp only [qC.dat,bM,aB] at h
 obtain ⟨_,_,rfl,⟨rfl,_⟩,_,_,rfl,⟨rfl,_⟩,_,_,rfl,⟨rfl,_⟩,_,_,rfl,⟨rfl,_⟩,rfl⟩:=h
 rfl
theorem amb (G:GH) (w0:World) (hG:Hold G w0) (l:List jS) (p:jS→Bool) (v fv:aj) (hv:aB G (.sl 3 (l.map jS.dat)) v) (hf:∀ x∈l,wu fv G x.dat (p x)) :
  Calls prog 226 #[v,fv] w0 (bV w0 G fun u G'=>u=vi (qN (l.findIdx? p))):=by
 obtain ⟨A,c,rfl,hc1,hc2,hg⟩:=hv.slice;have hml:maxLen=9223372036854775807:=rfl;rw [bN] at *;refine eN [(0,_),(1,_)] func226 rfl ntmps226 rfl rfl hG ?_;intro a H;refine kP H (SR fun _ K1=>ak K1 rfl (SQ fun _ K2=>SR fun _ K3=>Rm rfl (Rl KC rfl (Rm rfl (Kz K3 (SB ?_))))));clear H K1 K3;intro a H;skip;refine dV (ι:=Nat × GH) (Tc:=[(0,_),(1,_),(7,_)]) (Lc:=[]) (fun gh=>[(8,vi gh.1)]) (fun gh=>[]) (fun gh=>gh.2) (fun gh=>gh.1≤l.length∧(l.take gh.1).findIdx? p=none∧(∀ b o,G b=some o→gh.2 b=some o)) (fun gh=>l.length - gh.1) ((0,G)) (by exact (H).sub ⟨rfl,rfl,rfl,rfl,av⟩) ?_ ?_
 ·exact ⟨by omega,rfl,fun _ _ h=>h⟩
 clear H;rintro ⟨k,g⟩ a w hI H;dsimp only at hI H;obtain ⟨hk,hno,hgm⟩:=hI;dsimp only [lca,aO] at H;refine kP H (SR fun _ K4=>Rc rfl (Kz K4 (SQ fun _ K5=>Cd rfl ?_ ?_))) <;> clear H K4
 ·intro h9 a H
  try have p9:=dT h9
  have hk2:k < l.length:=by omega
  obtain ⟨b,o,cs,rfl,hcl,hrow,hr⟩:=hg k l[k].dat (by simp [hk2]);obtain rfl:=abG hr;refine kP H (Kc K5 (SQ fun _ K6=>SB (SR fun _ K7=>Rm rfl (ak K7 rfl (SR fun _ K8=>Rm rfl (Rm rfl (Rm rfl (Ri KC Kw rfl rfl ?_))))))));clear H K5 K7;intro a H;refine bK Kw (cs:=l[k].cells) H wn rfl rfl (fun j v hj=>H.hp.aF (aJ hgm (hrow j v hj))) rfl ?_;clear H;intro a H;refine vP H wn rfl rfl (hf _ (jD hk2) _ _ _ hgm H.ro (abH _ l[k])) rfl ?_;clear H;rintro v16 zV a w rfl Ak H;refine K8 _ _ ?_;clear K8;refine qG H rfl ?_ ?_
  ·intro h16
   try have p16:=dT h16
   refine kP H (SR fun _ K9=>Rm rfl (ak K9 rfl ?_));clear H K9;intro a H;refine lr H results226 rfl ?_
   first
    | exact H.rt (by rw [zy hk2 hno h16];rfl)
    | exact H.rt (by rw [show l.take k=l from mF (by omega)] at hno;rw [hno];rfl)
  intro h16
  try have p16:=dF h16
  refine kP H (Kc K6 (SC (Rd rfl (Rm rfl ?_))));clear H K6;intro a H;refine aH ?_;refine cB ((k+1,zV)) (by exact (H).sub ⟨rfl,rfl,rfl,rfl,av⟩) ?_ ?_
  ·(try dsimp only);exact ⟨by omega,Ih hk2 hno h16,fun b o h=>Ak b o (hgm b o h)⟩
  first|omega|(dsimp only;omega)
 intro h9 a H
 try have p9:=dF h9
 refine dJ ?_;refine K2 _ _ ?_;clear K2;refine kP H (SR fun _ aU=>ak aU rfl ?_);clear H aU;intro a H;refine lr H results226 rfl ?_
 first
  | exact H.rt (by rw [zy hk2 hno h16];rfl)
  | exact H.rt (by rw [show l.take k=l from mF (by omega)] at hno;rw [hno];rfl)
theorem afY (G:GH) (w0:World) (hG:Hold G w0) (l:List jS) (p:jS→Bool) (v fv:aj) (hv:aB G (.sl 3 (l.map jS.dat)) v) (hf:∀ x∈l,wu fv G x.dat (p x)) :
  Calls prog 200 #[v,fv] w0 (bV w0 G fun u G'=>u=.bool (l.findIdx? p).isSome):=by
 obtain ⟨A,c,rfl,hc1,hc2,-⟩:=hv.slice;rw [bN] at *;refine eN [(0,_),(1,_)] func200 rfl ntmps200 rfl rfl hG ?_;intro a H;refine kP H (SR fun _ K1=>ak K1 rfl (SR fun _ K2=>Rm rfl (Rm rfl ?_)));clear H K1;intro a H;refine s_call aho H wn rfl (amb _ _ H.ro l p _ _ hv hf) rfl ?_;clear H;rintro v7 G7 a w rfl yh H;exact kH H (Rc rfl (ak K2 rfl (LR results200 rfl fun H=>H.rt (aM (Vg _)))))
theorem amE {G:GH} {bl:Nat} {k:Int} (hb:aF G bl 0=some (vi k)) (x:jS):wu (.func (.func 201) #[] #[(aP bl 0)]) G x.dat (decide (k < x.level)):=by
 intro G1 w0 cs hm hG hr;refine nk (caps:=[(aP bl 0)]) ahc ?_;obtain rfl:=abG hr;replace hb:=aJ hm hb;refine eN [(0,_),(1,_)] func201 rfl ntmps201 rfl rfl hG ?_;intro a H;refine cO (fun _ K1=>?_);refine fD (cs:=[_,_,_]) H wn rfl rfl rfl ?_;clear H;intro b2 a w hb2 H;refine kH H (ak K1 rfl (SR fun _ K2=>aR aii aD 0 rfl rfl (Rg aD rfl (by assumption) ?_)));clear H K1;intro a H;exact kH H (Rc rfl (ak K2 rfl (LR results201 rfl fun H=>H.rt rfl)))
def CJ (t:ByteArray) (k:Int):Int:=if k < 1∨9 < k then 2 else if zJ t=0∧((Au t).findIdx? fun x=>decide (k < x.level)).isSome=true then 6 else zJ t
theorem amC (G:GH) (w0:World) (hG:Hold G w0) (t:ByteArray) (k:Int) (ht:t.size < 4611686018427387904) :
  Calls prog 156 #[.string t,vi k] w0 (bV w0 G fun u G'=>u=vi (CJ t k)):=by
 refine eN [(0,_),(1,_)] func156 rfl ntmps156 rfl rfl hG ?_;intro a H;refine cO (fun _ K1=>?_);refine fD (cs:=[_]) H wn rfl rfl rfl ?_;clear H;intro b3 a w hb3 H;refine kH H (ak K1 rfl (SQ fun _ K2=>SR fun _ K3=>Ro aD 0 rfl (Rc rfl (Rm rfl (Sp 9 rfl ?_ ?_))))) <;> clear H K1
 ·intro h9 a H
  try have p9:=dT h9
  refine kH H (aT h9 rfl (Pt h9 rfl (Kz K3 (Ct rfl rfl (SR fun _ K4=>ak K4 rfl ?_)))));clear H K3 K4;intro a H;refine lr H results156 rfl ?_
  exact H.rt (ay vi (by unfold CJ;(repeat' split) <;> first|rfl|(exfalso;simp_all;done)|(exfalso;simp_all;omega)|(simp_all;done)))
 intro h9 a H
 try have p9:=dF h9
 refine kH H (YO aD 0 h9 rfl (YC h9 rfl (Pf h9 rfl (Kz K3 (Cd rfl ?_ ?_))))) <;> clear H K3
 ·intro h12 a H
  try have qm:=dT h12
  refine kP H (SR fun _ K5=>ak K5 rfl ?_);clear H K5;intro a H;refine lr H results156 rfl ?_
  exact H.rt (ay vi (by unfold CJ;(repeat' split) <;> first|rfl|(exfalso;simp_all;done)|(exfalso;simp_all;omega)|(simp_all;done)))
 intro h12 a H
 try have qm:=dF h12
 refine fT ?_;refine K2 _ _ ?_;clear K2;refine aN (fun _ K6=>?_);obtain ⟨Ga,hma,Hy,H⟩:=H.eD
 have hbk:aF Ga b3 0=some (vi k):=by unfold aF;rw [Hy];rfl
 refine kP H (SC (Rm rfl ?_));clear H;intro a H;refine s_call agZ H wn rfl (anI _ _ H.ro t ht) rfl ?_;clear H;rintro v15 EB a w ⟨x15,rfl,aaZ⟩ vM H;obtain ⟨A15,c15,rfl,-,-,-⟩:=aaZ.slice;replace hbk:=aJ vM hbk;refine kH H (Rm rfl ?_);clear H;intro a H;(iterate 2 refine nQ H wn rfl rfl rfl ?_;clear H;intro a H);refine kH H (Ra rfl (aL K6 rfl (SQ fun _ K7=>SR fun _ K8=>Rm rfl (Rc rfl (Rm rfl (Sp 20 rfl ?_ ?_)))))) <;> clear H K6
 ·intro h20 a H
  try have qP:=dT h20
  refine kH H (YM h20 rfl ?_);clear H;intro a H;refine pO H (wg H rfl rfl h20) rfl rfl ?_;clear H;intro a H;refine s_call ahb H (wg H rfl rfl h20) rfl (afY _ _ H.ro _ (fun x=>decide (k < x.level)) _ _ aaZ (fun x _=>amE hbk x)) rfl ?_;clear H;rintro v23 G23 a w rfl akt H;refine kH H (Pt h20 rfl (Kz K8 (Cd rfl ?_ ?_))) <;> clear H K8
  ·intro iy a H
   try have ow:=dT iy
   refine kP H (SC (aL K7 rfl (SR fun _ K9=>Rm rfl (ak K9 rfl ?_))));clear H K7 K9;intro a H;refine lr H results156 rfl ?_
   exact H.rt (ay vi (by unfold CJ;(repeat' split) <;> first|rfl|(exfalso;simp_all;done)|(exfalso;simp_all;omega)|(simp_all;done)))
  intro iy a H
  try have ow:=dF iy
  refine kP H (Kc K7 (SR fun _ aU=>Rm rfl (ak aU rfl ?_)));clear H K7 aU;intro a H;refine lr H results156 rfl ?_
  exact H.rt (ay vi (by unfold CJ;(repeat' split) <;> first|rfl|(exfalso;simp_all;done)|(exfalso;simp_all;omega)|(simp_all;done)))
 intro h20 a H
 try have qP:=dF h20
 refine kH H (aZ h20 rfl (Pf h20 rfl (Kz K8 (Cf rfl rfl (Kc K7 (SR fun _ bD=>Rm rfl (ak bD rfl ?_)))))));clear H K8 K7 bD;intro a H;refine lr H results156 rfl ?_
 exact H.rt (ay vi (by unfold CJ;(repeat' split) <;> first|rfl|(exfalso;simp_all;done)|(exfalso;simp_all;omega)|(simp_all;done)))
end
section
open Go.RowKit
theorem Qn:Ty prog 194 4 40 [.int .i64 0,.int .i64 0,.string ⟨#[]⟩,.int .i64 0] true:=⟨by kernel_rfl,by kernel_rfl⟩
theorem Nc:prog.underlying 157=some (.slice 194):=by kernel_rfl
theorem Zo:dL prog 194 0 0:=⟨by kernel_rfl⟩
theorem Zp:dL prog 194 1 1:=⟨by kernel_rfl⟩
theorem aia:dL prog 194 2 2:=⟨by kernel_rfl⟩
theorem agI:∀ args w,(callFunc 156 args).run prog w=.ok (.enter 156 args) w:=enters func156 rfl (by kernel_rfl)
theorem Zq:dL prog 194 3 3:=⟨by kernel_rfl⟩
def GQ:Nat→List qC→Int
 | _,[]=>0
 | i,x :: r=>if x.fmt < 1∨7 < x.fmt then 3 else if x.start < 0∨32767 < x.start then 2 else if CJ x.BR ((i+1:Nat):Int)≠0 then CJ x.BR ((i+1:Nat):Int) else if x.restart < 0∨(i:Int) < x.restart then 5 else GQ (i+1) r
def eB (l:List qC):Int:=if l.length=0 then 11 else if 9 < l.length then 9 else GQ 0 l
theorem jL {l:List qC} {k:Nat} (h:k < l.length):GQ k (l.drop k)=if l[k].fmt < 1∨7 < l[k].fmt then 3 else if l[k].start < 0∨32767 < l[k].start then 2 else if CJ l[k].BR ((k+1:Nat):Int)≠0 then CJ l[k].BR ((k+1:Nat):Int) else if l[k].restart < 0∨(k:Int) < l[k].restart then 5 else GQ (k+1) (l.drop (k+1)):=by
 rw [jw h,GQ]
theorem Yn (G:GH) (w0:World) (hG:Hold G w0) (l:List qC) (v:aj) (hv:aB G (.sl 4 (l.map qC.dat)) v) (ht:∀ x∈l,x.BR.size < 4611686018427387904) :
  Calls prog 91 #[v] w0 (bV w0 G fun u G'=>u=vi (eB l)):=by
 obtain ⟨A,c,rfl,hc1,hc2,hg⟩:=hv.slice;have hml:maxLen=9223372036854775807:=rfl;rw [bN] at *;refine eN [(0,_)] func91 rfl ntmps91 rfl rfl hG ?_;intro a H;refine kP H (SR fun _ K1=>ak K1 rfl (SQ fun _ K2=>SB (SR fun _ K3=>Rm rfl (Rl Nc rfl (Rc rfl (ak K3 rfl (Cd rfl ?_ ?_))))))) <;> clear H K1 K3
 ·intro h6 a H
  try have p6:=dT h6
  refine kP H (SR fun _ K4=>ak K4 rfl ?_);clear H K4;intro a H;refine lr H results91 rfl ?_
  first
   | exact H.rt (ay vi (by rw [eB,au (by omega)]))
   | exact H.rt (ay vi (by rw [eB,ah (by omega),au (by omega)]))
   | exact H.rt (ay vi (by rw [eB,ah (by omega),ah (by omega),← he,jL hk2,au (by omega)]))
   | exact H.rt (ay vi (by rw [eB,ah (by omega),ah (by omega),← he,jL hk2,ah (by omega),au (by omega)]))
   | exact H.rt (ay vi (by rw [eB,ah (by omega),ah (by omega),← he,jL hk2,ah (by omega),ah (by omega),au p45]))
   | exact H.rt (ay vi (by rw [eB,ah (by omega),ah (by omega),← he,jL hk2,ah (by omega),ah (by omega),ah p45,au (by omega)]))
   | exact H.rt (ay vi (by rw [eB,ah (by omega),ah (by omega),← he,eU (by omega)];rfl))
 intro h6 a H
 try have p6:=dF h6
 refine kP H (SR fun _ K5=>Rm rfl (Rl Nc rfl (Rc rfl (ak K5 rfl (Cd rfl ?_ ?_))))) <;> clear H K5
 ·intro h10 a H
  try have sJ:=dT h10
  refine kP H (SR fun _ K6=>ak K6 rfl ?_);clear H K6;intro a H;refine lr H results91 rfl ?_
  first
   | exact H.rt (ay vi (by rw [eB,au (by omega)]))
   | exact H.rt (ay vi (by rw [eB,ah (by omega),au (by omega)]))
   | exact H.rt (ay vi (by rw [eB,ah (by omega),ah (by omega),← he,jL hk2,au (by omega)]))
   | exact H.rt (ay vi (by rw [eB,ah (by omega),ah (by omega),← he,jL hk2,ah (by omega),au (by omega)]))
   | exact H.rt (ay vi (by rw [eB,ah (by omega),ah (by omega),← he,jL hk2,ah (by omega),ah (by omega),au p45]))
   | exact H.rt (ay vi (by rw [eB,ah (by omega),ah (by omega),← he,jL hk2,ah (by omega),ah (by omega),ah p45,au (by omega)]))
   | exact H.rt (ay vi (by rw [eB,ah (by omega),ah (by omega),← he,eU (by omega)];rfl))
 intro h10 a H
 try have sJ:=dF h10
 refine kP H (Kc K2 (SQ fun _ K7=>SR fun _ K8=>Rm rfl (Rl Nc rfl (Rm rfl (Kz K8 (SB ?_))))));clear H K2 K8;intro a H;skip;refine dV (ι:=Nat × GH) (Tc:=[(14,_),(15,_)]) (Lc:=[]) (fun gh=>[(16,vi gh.1)]) (fun gh=>[]) (fun gh=>gh.2) (fun gh=>gh.1≤l.length∧GQ gh.1 (l.drop gh.1)=GQ 0 l∧(∀ b o,G b=some o→gh.2 b=some o)) (fun gh=>l.length - gh.1) ((0,G)) (by exact (H).sub ⟨rfl,rfl,rfl,av⟩) ?_ ?_
 ·exact ⟨fQ _,rfl,fun _ _ h=>h⟩
 clear H;rintro ⟨k,g⟩ a w hI H;dsimp only at hI H;obtain ⟨hk,he,hgm⟩:=hI;dsimp only [lca,aO] at H;refine kP H (SR fun _ K9=>Rc rfl (Kz K9 (SQ fun _ aU=>Cd rfl ?_ ?_))) <;> clear H K9
 ·intro gu a H
  try have mo:=dT gu
  have hk2:k < l.length:=by omega
  obtain ⟨b,o,cs,rfl,hcl,hrow,hr⟩:=hg k l[k].dat (by simp [hk2]);obtain rfl:=amD hr;refine kP H (Kc aU (SQ fun _ bD=>SB (SR fun _ bE=>Rm rfl (Ri Nc Qn rfl rfl ?_))));clear H aU;intro a H;refine bK Qn (cs:=l[k].cells) H wn rfl rfl (fun j v hj=>H.hp.aF (aJ hgm (hrow j v hj))) rfl ?_;clear H;intro a H;refine dY Qn H wn rfl ?_;clear H;intro b4 a w hb4 H;refine kH H (Ra rfl ?_);clear H;intro a H;refine bT Qn 0 (vs:=[_,_,_,_]) _ H wn rfl rfl rfl rfl rfl rfl rfl rfl ?_;clear H;intro w H;dsimp only [List.set,setRow] at H;refine bE _ _ ?_;clear bE;refine kP H (SQ fun _ bQ=>SB (SR fun _ bR=>aR Zo aD 0 rfl rfl (Rc rfl (Rm rfl (Sp 25 rfl ?_ ?_))))) <;> clear H
  ·intro fM a H
   try have p25:=dT fM
   refine kH H (aZ fM rfl (Pt fM rfl (ak bR rfl (Ct rfl rfl (SR fun _ bW=>ak bW rfl ?_)))));clear H bR bW;intro a H;refine lr H results91 rfl ?_
   first
    | exact H.rt (ay vi (by rw [eB,au (by omega)]))
    | exact H.rt (ay vi (by rw [eB,ah (by omega),au (by omega)]))
    | exact H.rt (ay vi (by rw [eB,ah (by omega),ah (by omega),← he,jL hk2,au (by omega)]))
    | exact H.rt (ay vi (by rw [eB,ah (by omega),ah (by omega),← he,jL hk2,ah (by omega),au (by omega)]))
    | exact H.rt (ay vi (by rw [eB,ah (by omega),ah (by omega),← he,jL hk2,ah (by omega),ah (by omega),au p45]))
    | exact H.rt (ay vi (by rw [eB,ah (by omega),ah (by omega),← he,jL hk2,ah (by omega),ah (by omega),ah p45,au (by omega)]))
    | exact H.rt (ay vi (by rw [eB,ah (by omega),ah (by omega),← he,eU (by omega)];rfl))
  intro fM a H
  try have p25:=dF fM
  refine kH H (YF Zo fM rfl (YO aD 0 fM rfl (YC fM rfl (Pf fM rfl (ak bR rfl (Cd rfl ?_ ?_)))))) <;> clear H bR
  ·intro h21 a H
   try have ou:=dT h21
   refine kP H (SR fun _ cK=>ak cK rfl ?_);clear H cK;intro a H;refine lr H results91 rfl ?_
   first
    | exact H.rt (ay vi (by rw [eB,au (by omega)]))
    | exact H.rt (ay vi (by rw [eB,ah (by omega),au (by omega)]))
    | exact H.rt (ay vi (by rw [eB,ah (by omega),ah (by omega),← he,jL hk2,au (by omega)]))
    | exact H.rt (ay vi (by rw [eB,ah (by omega),ah (by omega),← he,jL hk2,ah (by omega),au (by omega)]))
    | exact H.rt (ay vi (by rw [eB,ah (by omega),ah (by omega),← he,jL hk2,ah (by omega),ah (by omega),au p45]))
    | exact H.rt (ay vi (by rw [eB,ah (by omega),ah (by omega),← he,jL hk2,ah (by omega),ah (by omega),ah p45,au (by omega)]))
    | exact H.rt (ay vi (by rw [eB,ah (by omega),ah (by omega),← he,eU (by omega)];rfl))
  intro h21 a H
  try have ou:=dF h21
  refine kP H (SR fun _ bY=>aR Zp aD 0 rfl rfl (Rc rfl (Rm rfl (Sp 34 rfl ?_ ?_)))) <;> clear H
  ·intro dZ a H
   try have p34:=dT dZ
   refine kH H (aZ dZ rfl (Pt dZ rfl (ak bY rfl (Ct rfl rfl (SR fun _ dG=>ak dG rfl ?_)))));clear H bY dG;intro a H;refine lr H results91 rfl ?_
   first
    | exact H.rt (ay vi (by rw [eB,au (by omega)]))
    | exact H.rt (ay vi (by rw [eB,ah (by omega),au (by omega)]))
    | exact H.rt (ay vi (by rw [eB,ah (by omega),ah (by omega),← he,jL hk2,au (by omega)]))
    | exact H.rt (ay vi (by rw [eB,ah (by omega),ah (by omega),← he,jL hk2,ah (by omega),au (by omega)]))
    | exact H.rt (ay vi (by rw [eB,ah (by omega),ah (by omega),← he,jL hk2,ah (by omega),ah (by omega),au p45]))
    | exact H.rt (ay vi (by rw [eB,ah (by omega),ah (by omega),← he,jL hk2,ah (by omega),ah (by omega),ah p45,au (by omega)]))
    | exact H.rt (ay vi (by rw [eB,ah (by omega),ah (by omega),← he,eU (by omega)];rfl))
  intro dZ a H
  try have p34:=dF dZ
  refine kH H (YF Zp dZ rfl (YO aD 0 dZ rfl (YC dZ rfl (Pf dZ rfl (ak bY rfl (Cd rfl ?_ ?_)))))) <;> clear H bY
  ·intro oo a H
   try have p30:=dT oo
   refine kP H (SR fun _ dN=>ak dN rfl ?_);clear H dN;intro a H;refine lr H results91 rfl ?_
   first
    | exact H.rt (ay vi (by rw [eB,au (by omega)]))
    | exact H.rt (ay vi (by rw [eB,ah (by omega),au (by omega)]))
    | exact H.rt (ay vi (by rw [eB,ah (by omega),ah (by omega),← he,jL hk2,au (by omega)]))
    | exact H.rt (ay vi (by rw [eB,ah (by omega),ah (by omega),← he,jL hk2,ah (by omega),au (by omega)]))
    | exact H.rt (ay vi (by rw [eB,ah (by omega),ah (by omega),← he,jL hk2,ah (by omega),ah (by omega),au p45]))
    | exact H.rt (ay vi (by rw [eB,ah (by omega),ah (by omega),← he,jL hk2,ah (by omega),ah (by omega),ah p45,au (by omega)]))
    | exact H.rt (ay vi (by rw [eB,ah (by omega),ah (by omega),← he,eU (by omega)];rfl))
  intro oo a H
  try have p30:=dF oo
  refine kP H (Kc bQ (SQ fun _ dH=>SR fun _ dP=>aR aia gZ 0 rfl rfl (Rm rfl (Rd rfl ?_))));clear H bQ;intro a H;rw [show ((k:Int)+1)=((k+1:Nat):Int) from rfl] at H;refine s_call agI H wn rfl (amC _ _ H.ro l[k].BR ((k+1:Nat):Int) (ht _ (jD hk2))) rfl ?_;clear H;rintro v43 AO a w rfl nO H;refine kH H (ak dP rfl (SR fun _ eT=>Rm rfl (Rc rfl (Kz eT (Cd rfl ?_ ?_))))) <;> clear H dP eT
  ·intro h45 a H
   try have p45:=dT h45
   refine kP H (SR fun _ fP=>Rm rfl (ak fP rfl ?_));clear H fP;intro a H;refine lr H results91 rfl ?_
   first
    | exact H.rt (ay vi (by rw [eB,au (by omega)]))
    | exact H.rt (ay vi (by rw [eB,ah (by omega),au (by omega)]))
    | exact H.rt (ay vi (by rw [eB,ah (by omega),ah (by omega),← he,jL hk2,au (by omega)]))
    | exact H.rt (ay vi (by rw [eB,ah (by omega),ah (by omega),← he,jL hk2,ah (by omega),au (by omega)]))
    | exact H.rt (ay vi (by rw [eB,ah (by omega),ah (by omega),← he,jL hk2,ah (by omega),ah (by omega),au p45]))
    | exact H.rt (ay vi (by rw [eB,ah (by omega),ah (by omega),← he,jL hk2,ah (by omega),ah (by omega),ah p45,au (by omega)]))
    | exact H.rt (ay vi (by rw [eB,ah (by omega),ah (by omega),← he,eU (by omega)];rfl))
  intro h45 a H
  try have p45:=dF h45
  refine kP H (Kc dH (SR fun _ gq=>aR Zq aD 0 rfl rfl (Rc rfl (Rm rfl (Sp 50 rfl ?_ ?_))))) <;> clear H dH
  ·intro h50 a H
   try have p50:=dT h50
   refine kH H (aT h50 rfl (aT h50 rfl (Pt h50 rfl (Kz gq (Ct rfl rfl (SR fun _ gG=>ak gG rfl ?_))))));clear H gq gG;intro a H;refine lr H results91 rfl ?_
   first
    | exact H.rt (ay vi (by rw [eB,au (by omega)]))
    | exact H.rt (ay vi (by rw [eB,ah (by omega),au (by omega)]))
    | exact H.rt (ay vi (by rw [eB,ah (by omega),ah (by omega),← he,jL hk2,au (by omega)]))
    | exact H.rt (ay vi (by rw [eB,ah (by omega),ah (by omega),← he,jL hk2,ah (by omega),au (by omega)]))
    | exact H.rt (ay vi (by rw [eB,ah (by omega),ah (by omega),← he,jL hk2,ah (by omega),ah (by omega),au p45]))
    | exact H.rt (ay vi (by rw [eB,ah (by omega),ah (by omega),← he,jL hk2,ah (by omega),ah (by omega),ah p45,au (by omega)]))
    | exact H.rt (ay vi (by rw [eB,ah (by omega),ah (by omega),← he,eU (by omega)];rfl))
  intro h50 a H
  try have p50:=dF h50
  refine kH H (YF Zq h50 rfl (YO aD 0 h50 rfl (YM h50 rfl (YC h50 rfl (Pf h50 rfl (Kz gq (Cd rfl ?_ ?_))))))) <;> clear H gq
  ·intro nM a H
   try have p55:=dT nM
   refine kP H (SR fun _ iP=>ak iP rfl ?_);clear H iP;intro a H;refine lr H results91 rfl ?_
   first
    | exact H.rt (ay vi (by rw [eB,au (by omega)]))
    | exact H.rt (ay vi (by rw [eB,ah (by omega),au (by omega)]))
    | exact H.rt (ay vi (by rw [eB,ah (by omega),ah (by omega),← he,jL hk2,au (by omega)]))
    | exact H.rt (ay vi (by rw [eB,ah (by omega),ah (by omega),← he,jL hk2,ah (by omega),au (by omega)]))
    | exact H.rt (ay vi (by rw [eB,ah (by omega),ah (by omega),← he,jL hk2,ah (by omega),ah (by omega),au p45]))
    | exact H.rt (ay vi (by rw [eB,ah (by omega),ah (by omega),← he,jL hk2,ah (by omega),ah (by omega),ah p45,au (by omega)]))
    | exact H.rt (ay vi (by rw [eB,ah (by omega),ah (by omega),← he,eU (by omega)];rfl))
  intro nM a H
  try have p55:=dF nM
  refine kP H (Kc bD (SC (Rd rfl (Rm rfl ?_))));clear H bD;intro a H;refine aH ?_;refine cB ((k+1,AO)) (by exact (H.dx (Pl:=[_]) (bZ:=[]) [] (by decide) rfl).sub ⟨rfl,rfl,rfl,av⟩) ?_ ?_
  ·(try dsimp only);exact ⟨by omega,by rw [jL hk2,ah (by omega),ah (by omega),ah p45,ah (by omega)] at he;exact he,fun b o h=>nO b o (hgm b o h)⟩
  first|omega|(dsimp only;omega)
 intro gu a H
 try have mo:=dF gu
 refine dJ ?_;refine K7 _ _ ?_;clear K7;refine kP H (SR fun _ jm=>ak jm rfl ?_);clear H jm;intro a H;refine lr H results91 rfl ?_
 first
  | exact H.rt (ay vi (by rw [eB,au (by omega)]))
  | exact H.rt (ay vi (by rw [eB,ah (by omega),au (by omega)]))
  | exact H.rt (ay vi (by rw [eB,ah (by omega),ah (by omega),← he,jL hk2,au (by omega)]))
  | exact H.rt (ay vi (by rw [eB,ah (by omega),ah (by omega),← he,jL hk2,ah (by omega),au (by omega)]))
  | exact H.rt (ay vi (by rw [eB,ah (by omega),ah (by omega),← he,jL hk2,ah (by omega),ah (by omega),au p45]))
  | exact H.rt (ay vi (by rw [eB,ah (by omega),ah (by omega),← he,jL hk2,ah (by omega),ah (by omega),ah p45,au (by omega)]))
  | exact H.rt (ay vi (by rw [eB,ah (by omega),ah (by omega),← he,eU (by omega)];rfl))
end
section
open Go.RowKit
theorem xu:Ty prog 32 1 24 [.slice none 0 0] false:=⟨by kernel_rfl,by kernel_rfl⟩
theorem xA:prog.underlying 32=some (.slice 159):=by kernel_rfl
theorem zL:Ty prog 159 2 32 [.int .i64 0,.slice none 0 0] true:=⟨by kernel_rfl,by kernel_rfl⟩
theorem LP:dL prog 159 0 0:=⟨by kernel_rfl⟩
theorem Wv:Ty prog 157 1 24 [.slice none 0 0] false:=⟨by kernel_rfl,by kernel_rfl⟩
theorem RA:∀ args w,(callFunc 131 args).run prog w=.ok (.enter 131 args) w:=enters func131 rfl (by kernel_rfl)
theorem Sc:dL prog 159 1 1:=⟨by kernel_rfl⟩
theorem Zg:∀ args w,(callFunc 91 args).run prog w=.ok (.enter 91 args) w:=enters func91 rfl (by kernel_rfl)
theorem Jl:∀ args w,(callFunc 101 args).run prog w=.ok (.enter 101 args) w:=enters func101 rfl (by kernel_rfl)
theorem agQ:∀ args w,(callFunc 185 args).run prog w=.ok (.enter 185 args) w:=enters func185 rfl (by kernel_rfl)
theorem agP:∀ args w,(callFunc 184 args).run prog w=.ok (.enter 184 args) w:=enters func184 rfl (by kernel_rfl)
structure dR where
 id:Int
 levels:List qC
def dR.dat (x:dR):List Dat:=[li x.id,.sl 4 (x.levels.map qC.dat)]
structure jl where
 id:Int
 parent:Int
 author:ByteArray
 time:Int
 text:ByteArray
 done:Bool
def jl.dat (x:jl):List Dat:=[li x.id,li x.parent,.lf (.string x.author),li x.time,.lf (.string x.text),.lf (.bool x.done)]
abbrev jl.cells (x:jl):List aj:=[vi x.id,vi x.parent,.string x.author,vi x.time,.string x.text,.bool x.done]
structure oh where
 name:ByteArray
 value:ByteArray
def oh.dat (x:oh):List Dat:=[.lf (.string x.name),.lf (.string x.value)]
abbrev oh.cells (x:oh):List aj:=[.string x.name,.string x.value]
theorem Yt {G:GH} {x:jl} {cs:List aj} (h:bM G x.dat cs):cs=x.cells:=by
 simp only [jl.dat,bM,aB] at h
 obtain ⟨_,_,rfl,⟨rfl,_⟩,_,_,rfl,⟨rfl,_⟩,_,_,rfl,⟨rfl,_⟩,_,_,rfl,⟨rfl,_⟩,_,_,rfl,⟨rfl,_⟩,_,_,rfl,⟨rfl,_⟩,rfl⟩:=h
 rfl
theorem aqr {G:GH} {x:oh} {cs:List aj} (h:bM G x.dat cs):cs=x.cells:=by
 simp only [oh.dat,bM,aB] at h
 obtain ⟨_,_,rfl,⟨rfl,_⟩,_,_,rfl,⟨rfl,_⟩,rfl⟩:=h
 rfl
theorem Im {G:GH} {l:List dR} {A:Option Addr} {n c k:Nat} (hv:aB G (.sl 2 (l.map dR.dat)) (.slice A n c)) (hk:k < l.length):∃ b o B d,A=some ⟨b,o,none⟩∧(∀ j u,[vi l[k].id,.slice B l[k].levels.length d][j]?=some u→aF G b (o+k*2+j)=some u)∧aB G (.sl 4 (l[k].levels.map qC.dat)) (.slice B l[k].levels.length d):=by
 obtain ⟨A',c',he,_,_,hg⟩:=hv.slice
 injection he with e1 e2 e3
 subst e1;obtain ⟨b,o,cs,h1,h2,h3,h4⟩:=hg k l[k].dat (by simp [hk])
 simp only [dR.dat,bM] at h4
 obtain ⟨v1,_,rfl,⟨rfl,-⟩,v2,_,rfl,hl,rfl⟩:∃ v vs,cs=v :: vs∧aB G (li l[k].id) v∧∃ v2 vs2,vs=v2 :: vs2∧aB G (.sl 4 (l[k].levels.map qC.dat)) v2∧vs2=[]:=h4;obtain ⟨B,d,rfl,-,-,-⟩:=hl.slice;rw [bN] at *;exact ⟨b,o,B,d,h1,h3,hl⟩
theorem amv {G:GH} {bl:Nat} {l:List dR} {A:Option Addr} {n c:Nat} (hb:aF G bl 0=some (.slice A n c)) (hv:aB G (.sl 2 (l.map dR.dat)) (.slice A n c)):uY (.func (.func 185) #[] #[(aP bl 0)]) G l.length fun k=>(l[k]?.map dR.id).getD 0:=by
 intro k hk G1 w0 hm hG;refine nk (caps:=[(aP bl 0)]) agQ ?_;replace hb:=aJ hm hb
 obtain rfl:n=l.length:=by have:=hv.len;simpa using this
 obtain ⟨b,o,B,d,rfl,hrow,-⟩:=Im (hv.mono hm) hk;have hq:=hrow 0 _ rfl;refine eN [(0,_),(1,_)] func185 rfl ntmps185 rfl rfl hG ?_;intro a H;refine kP H (SR fun _ K1=>ak K1 rfl (SR fun _ K2=>Rg xu rfl (by assumption) ?_));clear H K1;intro a H;refine kH H (Rm rfl (Ri xA zL rfl rfl (Rf LP rfl (Rg aD rfl (by assumption) ?_))));clear H;intro a H;exact kH H (ak K2 rfl (LR results185 rfl fun H=>H.rt (by dsimp only;rw [fH hk];rfl)))
def yx (l:List dR) (i:Nat):Int:=bO [kK (fun k=>(l[k]?.map dR.id).getD 0) i,eB ((l[i]?.map dR.levels).getD [])]
theorem amx {G:GH} {bl:Nat} {l:List dR} {A:Option Addr} {n c:Nat} (hb:aF G bl 0=some (.slice A n c)) (hv:aB G (.sl 2 (l.map dR.dat)) (.slice A n c)) (hl:l.length≤4294967296) (ht:∀ x∈l,∀ y∈x.levels,y.BR.size < 4611686018427387904):uY (.func (.func 184) #[] #[(aP bl 0)]) G l.length (yx l):=by
 intro k hk G1 w0 hm hG;refine nk (caps:=[(aP bl 0)]) agP ?_;replace hb:=aJ hm hb;replace hv:=hv.mono hm;have hcb:=amv hb hv
 obtain rfl:n=l.length:=by have:=hv.len;simpa using this
 obtain ⟨b,o,B,d,rfl,hrow,hlv⟩:=Im hv hk;have hq:=hrow 1 _ rfl
 have he:yx l k=bO [kK (fun k=>(l[k]?.map dR.id).getD 0) k,eB l[k].levels]:=by unfold yx;rw [fH hk];rfl
 refine eN [(0,_),(1,_)] func184 rfl ntmps184 rfl rfl hG ?_;intro a H;refine kP H (SR fun _ K1=>ak K1 rfl (SQ fun _ K2=>?_));clear H K1;intro a H;have H:=H.sub (T':=[(0,_),(1,_)]) ⟨rfl,rfl,av⟩;refine dI hmx [[],[],[0,1],[],[],[3,4],[3,4,5],(ra 3 4),(ra 0 8),(ra 0 9),(ra 0 10),(ra 0 11)] [9,10,11] (by kernel_rfl) [_,.func (.func 185) #[] #[(aP bl 0)],vi (kK (fun k=>(l[k]?.map dR.id).getD 0) k),_,_,_,_,_,vi (eB l[k].levels)] H (aI (Z0 rfl (Rm rfl)) ?_ ?_ (X0 rfl fun hG=>Rg xu rfl (aJ hG hb)) (aI (Z0 rfl (Rm rfl)) (Z2 3 7 4 8 rfl (Ri xA zL rfl rfl)) (Z1 5 9 rfl (Rf Sc rfl)) (X1 6 10 rfl fun hG=>Rg Wv rfl (aJ hG hq)) (aI ?_ (cZ rfl) (cZ rfl) (cZ rfl) dQ))) ?_
 ·refine Dn rfl fun _ a w G1 hG HT H fin=>?_;refine pO H wn rfl rfl ?_;clear H;intro a H;exact fin H iJ rfl
 ·refine fu 0 4 1 5 rfl rfl fun _ a w G1 hG HT H fin=>?_;refine s_call RA H wn rfl (Vd _ _ H.ro k _ _ (by omega) (fun i hi=>(hcb.mono hG) i (by omega))) rfl ?_;clear H;rintro v6 G6 a w rfl lI H;exact fin H lI (rfl)
 ·refine fq 7 11 rfl rfl fun _ a w G1 hG HT H fin=>?_;refine s_call Zg H wn rfl (Yn _ _ H.ro _ _ (hlv.mono hG) (ht _ (jD hk))) rfl ?_;clear H;rintro v12 zU a w rfl tH H;exact fin H tH (rfl)
 clear H;intro a w G sH H hv;have H:=H.bC (hv 2 6 rfl rfl) rfl;have H:=H.bC (hv 8 12 rfl rfl) rfl;clear hv;refine jd qV iO [_,_] [_,_] H wn rfl rfl rfl rfl rfl (by intro i q h;match i,h with|0,h=>exact h|1,h=>exact h|n+2,h=>simp at h) rfl rfl ?_;clear H;intro b13 a w OO H;obtain ⟨qB,ql,JG,H⟩:=H.eD;refine s_call rY H wn rfl (rZ _ _ H.ro _ _ (AA JG)) rfl ?_;clear H;rintro v14 _ a w ⟨rfl,rfl⟩ - H;refine kH H (Ra rfl ?_);clear H;intro a H;refine aH ⟨rfl,?_⟩;refine K2 _ _ ?_;clear K2;refine lr H results184 rfl ?_;exact H.rt (by rw [he])
def wC (l:List dR):Int:=bO [bL (decide (64 < (l.length:Int))) 9,iw (yx l) (min l.length 64)]
theorem uY.le {fv:aj} {G:GH} {n m:Nat} {E:Nat→Int} (h:uY fv G n E) (hm:m≤n):uY fv G m E:=fun i hi=>h i (by omega)
theorem afG (G:GH) (w0:World) (hG:Hold G w0) (l:List dR) (v:aj) (hv:aB G (.sl 2 (l.map dR.dat)) v) (hl:l.length≤4294967296) (ht:∀ x∈l,∀ y∈x.levels,y.BR.size < 4611686018427387904) :
  Calls prog 127 #[v] w0 (bV w0 G fun u G'=>u=vi (wC l)):=by
 obtain ⟨A,c,rfl,hc1,hc2,-⟩:=hv.slice;rw [bN] at *;refine eN [(0,_)] func127 rfl ntmps127 rfl rfl hG ?_;intro a H;refine cO (fun _ K1=>?_);refine fD (cs:=[_]) H wn rfl rfl rfl ?_;clear H;intro b1 a w hb1 H;refine kH H (ak K1 rfl (SQ fun _ K2=>?_));clear H K1;intro a H;have H:=H.sub (T':=[(1,_)]) ⟨rfl,av⟩;obtain ⟨Ga,hma,hb1',H⟩:=H.eD
 have hbl:aF Ga b1 0=some (.slice A l.length c):=by unfold aF;rw [hb1'];rfl
 have hcb:=amx hbl (hv.mono hma) hl ht;refine dI hmx [[],[0],[0,1],[0,1,2],[],[4],[4,5],[],(ra 0 8),(ra 0 9),(ra 0 10),(ra 0 11)] [9,10,11] (by kernel_rfl) [_,_,_,vi (bL (decide (64 < (l.length:Int))) 9),_,_,vi ((min l.length 64:Nat):Int),.func (.func 184) #[] #[(aP b1 0)],vi (iw (yx l) (min l.length 64))] H (aI (X0 rfl fun hG=>Rg xu rfl (aJ hG hbl)) (Z1 0 3 rfl (Rl xA rfl)) (Z1 1 4 rfl (Rc rfl)) ?_ (aI (X0 rfl fun hG=>Rg xu rfl (aJ hG hbl)) (Z1 4 7 rfl (Rl xA rfl)) ?_ ?_ (aI ?_ (cZ rfl) (cZ rfl) (cZ rfl) dQ))) ?_
 ·refine fq 2 5 rfl rfl fun _ a w G1 hG HT H fin=>?_;refine s_call kg H wn rfl (ku _ _ H.ro _ 9) rfl ?_;clear H;rintro v6 G6 a w ⟨rfl,-⟩ lI H;exact fin H lI (rfl)
 ·refine fq 5 8 rfl rfl fun _ a w G1 hG HT H fin=>?_;refine Qf H wn rfl rfl rfl ?_;clear H;intro a H;exact fin H iJ (ay vi (by omega))
 ·refine Dn rfl fun _ a w G1 hG HT H fin=>?_;refine pO H wn rfl rfl ?_;clear H;intro a H;exact fin H iJ rfl
 ·refine fu 6 9 7 10 rfl rfl fun _ a w G1 hG HT H fin=>?_;refine s_call Jl H wn rfl (Lg _ _ H.ro (min l.length 64) (yx l) _ (by omega) ((hcb.mono hG).le (Nat.min_le_left _ _))) rfl ?_;clear H;rintro v11 zT a w rfl zo H;exact fin H zo (rfl)
 clear H;intro a w G sH H hv;have H:=H.bC (hv 3 6 rfl rfl) rfl;have H:=H.bC (hv 8 11 rfl rfl) rfl;clear hv;refine jd qV iO [_,_] [_,_] H wn rfl rfl rfl rfl rfl (by intro i q h;match i,h with|0,h=>exact h|1,h=>exact h|n+2,h=>simp at h) rfl rfl ?_;clear H;intro b12 a w D5 H;obtain ⟨zU,Cy,Hw,H⟩:=H.eD;refine s_call rY H wn rfl (rZ _ _ H.ro _ _ (AA Hw)) rfl ?_;clear H;rintro v13 _ a w ⟨rfl,rfl⟩ - H;refine kH H (Ra rfl ?_);clear H;intro a H;refine aH ⟨rfl,?_⟩;refine K2 _ _ ?_;clear K2;refine lr H results127 rfl ?_;exact H.rt rfl
end
section
open Go.RowKit
theorem nR:prog.underlying 31=some (.slice 156):=by kernel_rfl
theorem kN:Ty prog 156 6 72 [.int .i64 0,.int .i64 0,.string ⟨#[]⟩,.int .i64 0,.int .i64 0,.slice none 0 0] true:=⟨by kernel_rfl,by kernel_rfl⟩
theorem ze:dL prog 156 1 1:=⟨by kernel_rfl⟩
theorem Jq:dL prog 156 2 2:=⟨by kernel_rfl⟩
theorem wE:dL prog 156 0 0:=⟨by kernel_rfl⟩
theorem Y1:∀ args w,(callFunc 220 args).run prog w=.ok (.enter 220 args) w:=enters func220 rfl (by kernel_rfl)
theorem agY:∀ args w,(callFunc 197 args).run prog w=.ok (.enter 197 args) w:=enters func197 rfl (by kernel_rfl)
theorem ahj:∀ args w,(callFunc 221 args).run prog w=.ok (.enter 221 args) w:=enters func221 rfl (by kernel_rfl)
theorem ahk:∀ args w,(callFunc 222 args).run prog w=.ok (.enter 222 args) w:=enters func222 rfl (by kernel_rfl)
structure bS where
 id:Int
 kind:Int
 name:ByteArray
 base:Int
 next:Int
 props:List jX
def bS.dat (x:bS):List Dat:=[li x.id,li x.kind,.lf (.string x.name),li x.base,li x.next,.sl 2 (x.props.map jX.dat)]
theorem Wi {G:GH} {x:bS} {cs:List aj} (h:bM G x.dat cs):∃ A c,cs=[vi x.id,vi x.kind,.string x.name,vi x.base,vi x.next,.slice A x.props.length c]∧aB G (.sl 2 (x.props.map jX.dat)) (.slice A x.props.length c):=by
 simp only [bS.dat,bM] at h
 obtain ⟨v1,_,rfl,h1,v2,_,rfl,h2,v3,_,rfl,h3,v4,_,rfl,h4,v5,_,rfl,h5,v6,_,rfl,h6,rfl⟩:=h
 simp only [aB] at h1 h2 h3 h4 h5
 obtain ⟨rfl,-⟩:=h1;obtain ⟨rfl,-⟩:=h2;obtain ⟨rfl,-⟩:=h3;obtain ⟨rfl,-⟩:=h4;obtain ⟨rfl,-⟩:=h5;obtain ⟨A,c,rfl,-,-,-⟩:=h6.slice;rw [bN] at *;exact ⟨A,c,rfl,h6⟩
theorem BQ {G:GH} {l:List bS} {A:Option Addr} {n c k:Nat} (hv:aB G (.sl 6 (l.map bS.dat)) (.slice A n c)) (hk:k < l.length):∃ b o pA pc,A=some ⟨b,o,none⟩∧(∀ j u,[vi l[k].id,vi l[k].kind,.string l[k].name,vi l[k].base,vi l[k].next,.slice pA l[k].props.length pc][j]?=some u→aF G b (o+k*6+j)=some u)∧aB G (.sl 2 (l[k].props.map jX.dat)) (.slice pA l[k].props.length pc) ∧
  bM G l[k].dat [vi l[k].id,vi l[k].kind,.string l[k].name,vi l[k].base,vi l[k].next,.slice pA l[k].props.length pc]:=by
 obtain ⟨A',c',he,_,_,hg⟩:=hv.slice
 injection he with e1 e2 e3
 subst e1;obtain ⟨b,o,cs,h1,h2,h3,h4⟩:=hg k l[k].dat (by simp [hk]);obtain ⟨pA,pc,rfl,hp⟩:=Wi h4;exact ⟨b,o,pA,pc,h1,h3,hp,h4⟩
def okB (x:Int):Bool:=decide (32≤x∧x≤126)
def Iq (s:ByteArray) (k:Nat):Bool:=(List.range k).all fun i=>okB (jh s i)
def oL (s:ByteArray):Bool:=decide (s.size≠0∧s.size≤40∧jh s 0≠32∧jh s (s.size - 1)≠32) && Iq s s.size
theorem ana (s:ByteArray) (k:Nat):Iq s (k+1)=(Iq s k && okB (jh s k)):=by simp [Iq,List.range_succ]
theorem Ir {s:ByteArray} {k:Nat} (hk:k < s.size) (h:okB (jh s k)=false):Iq s s.size=false:=by
 rw [Iq,List.all_eq_false];exact ⟨k,by simpa using hk,by simp [h]⟩
theorem Pv (G:GH) (w0:World) (hG:Hold G w0) (s:ByteArray) (hs:s.size≤4611686018427387904):Calls prog 194 #[.string s] w0 (bV w0 G fun u G'=>u=.bool (oL s)):=by
 refine eN [(0,_)] func194 rfl ntmps194 rfl rfl hG ?_;intro a H;refine kP H (SR fun _ K1=>ak K1 rfl (SQ fun _ K2=>SR fun _ K3=>Rm rfl (Rv iD rfl (Rc rfl (Rm rfl (Sp 7 rfl ?_ ?_)))))) <;> clear H K1
 ·intro h7 a H
  try have p7:=dT h7
  refine kH H (aZ h7 rfl (Pt h7 rfl (Rm rfl (aZ rfl rfl (Pt rfl rfl (Rm rfl (aZ rfl rfl (aZ rfl rfl (Pt rfl rfl (Kz K3 (Ct rfl rfl (SR fun _ K4=>ak K4 rfl ?_))))))))))));clear H K3 K4;intro a H;refine lr H results194 rfl ?_
  first
   | exact H.rt (aM (by rw [oL,iV (by omega),uo]))
   | exact H.rt (aM (by rw [oL,iq (by omega),show s.size=k by omega,hno];rfl))
   | exact H.rt (aM (by rw [oL,Ir (k:=k) (by omega) (iV (by omega)),Bool.and_false]))
 intro h7 a H
 try have p7:=dF h7
 refine kH H (YM h7 rfl ?_);clear H;intro a H;refine BO iD H (wg H rfl rfl h7) rfl rfl ?_;clear H;intro a H;refine kH H (YC h7 rfl (Pf h7 rfl (Rm rfl (Sp 12 rfl ?_ ?_)))) <;> clear H
 ·intro h12 a H
  try have qm:=dT h12
  refine kH H (aZ h12 rfl (Pt h12 rfl (Rm rfl (aZ rfl rfl (aZ rfl rfl (Pt rfl rfl (Kz K3 (Ct rfl rfl (SR fun _ K5=>ak K5 rfl ?_)))))))));clear H K3 K5;intro a H;refine lr H results194 rfl ?_
  first
   | exact H.rt (aM (by rw [oL,iV (by omega),uo]))
   | exact H.rt (aM (by rw [oL,iq (by omega),show s.size=k by omega,hno];rfl))
   | exact H.rt (aM (by rw [oL,Ir (k:=k) (by omega) (iV (by omega)),Bool.and_false]))
 intro h12 a H
 try have qm:=dF h12
 refine kH H (YM h12 rfl ?_);clear H;intro a H;refine qw 0 iD H (wg H rfl rfl h12) rfl rfl rfl (by omega) rfl ?_;clear H;intro a H;rw [← nV] at H;refine kH H (YC h12 rfl (Pf h12 rfl (Rm rfl (Sp 17 rfl ?_ ?_)))) <;> clear H
 ·intro gu a H
  try have mo:=dT gu
  refine kH H (aZ gu rfl (aZ gu rfl (Pt gu rfl (Kz K3 (Ct rfl rfl (SR fun _ K6=>ak K6 rfl ?_))))));clear H K3 K6;intro a H;refine lr H results194 rfl ?_
  first
   | exact H.rt (aM (by rw [oL,iV (by omega),uo]))
   | exact H.rt (aM (by rw [oL,iq (by omega),show s.size=k by omega,hno];rfl))
   | exact H.rt (aM (by rw [oL,Ir (k:=k) (by omega) (iV (by omega)),Bool.and_false]))
 intro gu a H
 try have mo:=dF gu
 refine kH H (YM gu rfl (YM gu rfl ?_));clear H;intro a H;refine BO iD H (wg H rfl rfl gu) rfl rfl ?_;clear H;intro a H;refine mQ _ H (wg H rfl rfl gu) rfl rfl rfl (by omega) (by omega) rfl ?_;clear H;intro a H;refine qw (s.size - 1) iD H (wg H rfl rfl gu) rfl rfl (by omega) (by omega) rfl ?_;clear H;intro a H;rw [← nV] at H;refine kH H (YC gu rfl (Pf gu rfl (Kz K3 (Cd rfl ?_ ?_)))) <;> clear H K3
 ·intro iy a H
  try have ow:=dT iy
  refine kP H (SR fun _ K7=>ak K7 rfl ?_);clear H K7;intro a H;refine lr H results194 rfl ?_
  first
   | exact H.rt (aM (by rw [oL,iV (by omega),uo]))
   | exact H.rt (aM (by rw [oL,iq (by omega),show s.size=k by omega,hno];rfl))
   | exact H.rt (aM (by rw [oL,Ir (k:=k) (by omega) (iV (by omega)),Bool.and_false]))
 intro iy a H
 try have ow:=dF iy
 refine kP H (Kc K2 (SQ fun _ K8=>SR fun _ K9=>Rm rfl (Rv iD rfl (Rm rfl (Kz K9 (SB ?_))))));clear H K2 K9;intro a H;skip;refine dV (ι:=Nat) (Tc:=[(0,_),(26,_)]) (Lc:=[]) (fun gh=>[(27,vi gh)]) (fun gh=>[]) (fun gh=>G) (fun gh=>gh≤s.size∧Iq s gh=true) (fun gh=>s.size - gh) (0) (by exact (H).sub ⟨rfl,rfl,rfl,av⟩) ?_ ?_
 ·exact ⟨fQ _,rfl⟩
 clear H;intro k a w hI H;obtain ⟨hk,hno⟩:=hI;dsimp only [lca,aO] at H;refine kP H (SR fun _ aU=>Rc rfl (Kz aU (SQ fun _ bD=>Cd rfl ?_ ?_))) <;> clear H aU
 ·intro iK a H
  try have p28:=dT iK
  refine kP H (Kc bD (SQ fun _ bE=>SB (SR fun _ bQ=>Rm rfl (ak bQ rfl (SR fun _ bR=>Rm rfl (Rm rfl ?_))))));clear H bD bQ;intro a H;refine qw k iD H wn rfl rfl rfl (by omega) rfl ?_;clear H;intro a H;rw [← nV] at H;refine kH H (Rc rfl (Rm rfl (Sp 34 rfl ?_ ?_))) <;> clear H
  ·intro dZ a H
   try have p34:=dT dZ
   refine kH H (aT dZ rfl (aT dZ rfl (Pt dZ rfl (Kz bR (Ct rfl rfl (SR fun _ bW=>ak bW rfl ?_))))));clear H bR bW;intro a H;refine lr H results194 rfl ?_
   first
    | exact H.rt (aM (by rw [oL,iV (by omega),uo]))
    | exact H.rt (aM (by rw [oL,iq (by omega),show s.size=k by omega,hno];rfl))
    | exact H.rt (aM (by rw [oL,Ir (k:=k) (by omega) (iV (by omega)),Bool.and_false]))
  intro dZ a H
  try have p34:=dF dZ
  refine kH H (YM dZ rfl (YM dZ rfl ?_));clear H;intro a H;refine qw k iD H (wg H rfl rfl dZ) rfl rfl rfl (by omega) rfl ?_;clear H;intro a H;rw [← nV] at H;refine kH H (YC dZ rfl (Pf dZ rfl (Kz bR (Cd rfl ?_ ?_)))) <;> clear H bR
  ·intro iN a H
   try have p39:=dT iN
   refine kP H (SR fun _ cK=>ak cK rfl ?_);clear H cK;intro a H;refine lr H results194 rfl ?_
   first
    | exact H.rt (aM (by rw [oL,iV (by omega),uo]))
    | exact H.rt (aM (by rw [oL,iq (by omega),show s.size=k by omega,hno];rfl))
    | exact H.rt (aM (by rw [oL,Ir (k:=k) (by omega) (iV (by omega)),Bool.and_false]))
  intro iN a H
  try have p39:=dF iN
  refine kP H (Kc bE (SC (Rd rfl (Rm rfl ?_))));clear H bE;intro a H;refine aH ?_;refine cB ((k+1)) (by exact (H).sub ⟨rfl,rfl,rfl,av⟩) ?_ ?_
  ·exact ⟨by omega,by rw [ana,hno];simp [okB];omega⟩
  first|omega|(dsimp only;omega)
 intro iK a H
 try have p28:=dF iK
 refine dJ ?_;refine K8 _ _ ?_;clear K8;refine kP H (SR fun _ bY=>ak bY rfl ?_);clear H bY;intro a H;refine lr H results194 rfl ?_
 first
  | exact H.rt (aM (by rw [oL,iV (by omega),uo]))
  | exact H.rt (aM (by rw [oL,iq (by omega),show s.size=k by omega,hno];rfl))
  | exact H.rt (aM (by rw [oL,Ir (k:=k) (by omega) (iV (by omega)),Bool.and_false]))
theorem abp (G:GH) (w0:World) (hG:Hold G w0) (l:List bS) (p:bS→Bool) (v fv:aj) (hv:aB G (.sl 6 (l.map bS.dat)) v) (hf:∀ x∈l,wu fv G x.dat (p x)) :
  Calls prog 220 #[v,fv] w0 (bV w0 G fun u G'=>u=vi (qN (l.findIdx? p))):=by
 obtain ⟨A,c,rfl,hc1,hc2,-⟩:=hv.slice;have hml:maxLen=9223372036854775807:=rfl;rw [bN] at *;refine eN [(0,_),(1,_)] func220 rfl ntmps220 rfl rfl hG ?_;intro a H;refine kP H (SR fun _ K1=>ak K1 rfl (SQ fun _ K2=>SR fun _ K3=>Rm rfl (Rl nR rfl (Rm rfl (Kz K3 (SB ?_))))));clear H K1 K3;intro a H;skip;refine dV (ι:=Nat × GH) (Tc:=[(0,_),(1,_),(7,_)]) (Lc:=[]) (fun gh=>[(8,vi gh.1)]) (fun gh=>[]) (fun gh=>gh.2) (fun gh=>gh.1≤l.length∧(l.take gh.1).findIdx? p=none∧(∀ b o,G b=some o→gh.2 b=some o)) (fun gh=>l.length - gh.1) ((0,G)) (by exact (H).sub ⟨rfl,rfl,rfl,rfl,av⟩) ?_ ?_
 ·exact ⟨by omega,rfl,fun _ _ h=>h⟩
 clear H;rintro ⟨k,g⟩ a w hI H;dsimp only at hI H;obtain ⟨hk,hno,hgm⟩:=hI;dsimp only [lca,aO] at H;refine kP H (SR fun _ K4=>Rc rfl (Kz K4 (SQ fun _ K5=>Cd rfl ?_ ?_))) <;> clear H K4
 ·intro h9 a H
  try have p9:=dT h9
  have hk2:k < l.length:=by omega
  obtain ⟨b,o,pA,pc,rfl,hrow,hp,hrep⟩:=BQ (hv.mono hgm) hk2;refine kP H (Kc K5 (SQ fun _ K6=>SB (SR fun _ K7=>Rm rfl (ak K7 rfl (SR fun _ K8=>Rm rfl (Rm rfl (Rm rfl (Ri nR kN rfl rfl ?_))))))));clear H K5 K7;intro a H;refine bK kN (cs:=[_,_,_,_,_,_]) H wn rfl rfl (fun j v hj=>H.hp.aF (hrow j v hj)) rfl ?_;clear H;intro a H;refine vP H wn rfl rfl (hf _ (jD hk2) _ _ _ hgm H.ro hrep) rfl ?_;clear H;rintro v16 zV a w rfl Ak H;refine K8 _ _ ?_;clear K8;refine qG H rfl ?_ ?_
  ·intro h16
   try have p16:=dT h16
   refine kP H (SR fun _ K9=>Rm rfl (ak K9 rfl ?_));clear H K9;intro a H;refine lr H results220 rfl ?_
   first
    | exact H.rt (by rw [zy hk2 hno h16];rfl)
    | exact H.rt (by rw [show l.take k=l from mF (by omega)] at hno;rw [hno];rfl)
  intro h16
  try have p16:=dF h16
  refine kP H (Kc K6 (SC (Rd rfl (Rm rfl ?_))));clear H K6;intro a H;refine aH ?_;refine cB ((k+1,zV)) (by exact (H).sub ⟨rfl,rfl,rfl,rfl,av⟩) ?_ ?_
  ·(try dsimp only);exact ⟨by omega,Ih hk2 hno h16,fun b o h=>Ak b o (hgm b o h)⟩
  first|omega|(dsimp only;omega)
 intro h9 a H
 try have p9:=dF h9
 refine dJ ?_;refine K2 _ _ ?_;clear K2;refine kP H (SR fun _ aU=>ak aU rfl ?_);clear H aU;intro a H;refine lr H results220 rfl ?_
 first
  | exact H.rt (by rw [zy hk2 hno h16];rfl)
  | exact H.rt (by rw [show l.take k=l from mF (by omega)] at hno;rw [hno];rfl)
def MR (p q:ByteArray):Bool:=p.toList == q.toList
theorem aiq {G:GH} {bk bn:Nat} {kind:Int} {name:ByteArray} (hk:aF G bk 0=some (vi kind)) (hn:aF G bn 0=some (.string name)) (x:bS):wu (.func (.func 221) #[] #[(aP bk 0),(aP bn 0)]) G x.dat (decide (x.kind=kind) && MR x.name name):=by
 intro G1 w0 cs hm hG hr;refine nk (caps:=[(aP bk 0),(aP bn 0)]) ahj ?_;obtain ⟨pA,pc,rfl,-⟩:=Wi hr;replace hk:=aJ hm hk;replace hn:=aJ hm hn;refine eN [(0,_),(1,_),(2,_)] func221 rfl ntmps221 rfl rfl hG ?_;intro a H;refine cO (fun _ K1=>?_);refine fD (cs:=[_,_,_,_,_,_]) H wn rfl rfl rfl ?_;clear H;intro b3 a w hb3 H;refine kH H (ak K1 rfl (SR fun _ K2=>aR ze aD 0 rfl rfl (Rg aD rfl (by assumption) ?_)));clear H K1;intro a H;refine kH H (Rc rfl (Rm rfl (Sp 9 rfl ?_ ?_))) <;> clear H
 ·intro h9 a H
  try have p9:=dT h9
  refine kH H (YF Jq h9 rfl (YO gZ 0 h9 rfl (YR gZ h9 rfl (by assumption) ?_)));clear H;intro a H;refine II H (wg H rfl rfl h9) rfl rfl rfl ?_;clear H;intro a H;exact kH H (Pt h9 rfl (ak K2 rfl (LR results221 rfl fun H=>H.rt (by unfold MR;simp_all))))
 intro h9 a H
 try have p9:=dF h9
 exact kH H (aT h9 rfl (aT h9 rfl (Pf h9 rfl (ak K2 rfl (LR results221 rfl fun H=>H.rt (by unfold MR;simp_all))))))
theorem aip {G:GH} {bi:Nat} {id:Int} (hb:aF G bi 0=some (vi id)) (x:bS):wu (.func (.func 222) #[] #[(aP bi 0)]) G x.dat (decide (x.id=id)):=by
 intro G1 w0 cs hm hG hr;refine nk (caps:=[(aP bi 0)]) ahk ?_;obtain ⟨pA,pc,rfl,-⟩:=Wi hr;replace hb:=aJ hm hb;refine eN [(0,_),(1,_)] func222 rfl ntmps222 rfl rfl hG ?_;intro a H;refine cO (fun _ K1=>?_);refine fD (cs:=[_,_,_,_,_,_]) H wn rfl rfl rfl ?_;clear H;intro b2 a w hb2 H;refine kH H (ak K1 rfl (SR fun _ K2=>aR wE aD 0 rfl rfl (Rg aD rfl (by assumption) ?_)));clear H K1;intro a H;exact kH H (Rc rfl (ak K2 rfl (LR results222 rfl fun H=>H.rt rfl)))
def Fb (l:List bS) (kind:Int) (name:ByteArray):Option Nat:=l.findIdx? fun x=>decide (x.kind=kind) && MR x.name name
def Oq (l:List bS) (id:Int):Option Nat:=l.findIdx? fun x=>decide (x.id=id)
theorem abw (o:Option Nat):decide (0≤qN o)=o.isSome:=by cases o <;> simp [qN]
theorem air (G:GH) (w0:World) (hG:Hold G w0) (l:List bS) (kind:Int) (name:ByteArray) (v:aj) (hv:aB G (.sl 6 (l.map bS.dat)) v) :
  Calls prog 195 #[v,vi kind,.string name] w0 (bV w0 G fun u G'=>u=.tuple #[vi (max (qN (Fb l kind name)) 0),.bool (Fb l kind name).isSome]):=by
 obtain ⟨A,c,rfl,hc1,hc2,-⟩:=hv.slice;rw [bN] at *;refine eN [(0,_),(1,_),(2,_)] func195 rfl ntmps195 rfl rfl hG ?_;intro a H;refine cO (fun _ K1=>?_);refine fD (cs:=[_]) H wn rfl rfl rfl ?_;clear H;intro b4 a w hb4 H;refine fD (cs:=[_]) H wn rfl rfl rfl ?_;clear H;intro b5 a w hb5 H;refine kH H (Ra rfl (ak K1 rfl (SQ fun _ K2=>?_)));clear H K1;intro a H;obtain ⟨Ga,hma,zu,H⟩:=H.eD;obtain ⟨Gb,hmb,BA,H⟩:=H.eD
 have q4:aF Gb b4 0=some (vi kind):=by unfold aF;rw [BA];rfl
 have q5:aF Gb b5 0=some (.string name):=by unfold aF;rw [hmb _ _ zu];rfl
 refine kP H (SC (Rm rfl ?_));clear H;intro a H;refine pO H wn rfl rfl ?_;clear H;intro a H;refine s_call Y1 H wn rfl (abp _ _ H.ro l (fun x=>decide (x.kind=kind) && MR x.name name) _ _ ((hv.mono hma).mono hmb) (fun x _=>aiq q4 q5 x)) rfl ?_;clear H;rintro v11 zT a w rfl H8 H;refine kH H (aL K2 rfl (SR fun _ K3=>Rm rfl ?_));clear H K2;intro a H;refine FR H wn rfl rfl rfl ?_;clear H;intro a H;refine kH H (Rm rfl (Rc rfl (Ra rfl (ak K3 rfl ?_))));clear H K3;intro a H;refine dK ?_;refine (gY H results195 (.cons (bF H rfl) (.cons (bF H rfl) .nil)) ?_).1;exact H.rt (by rw [← abw];rfl)
theorem ait (G:GH) (w0:World) (hG:Hold G w0) (l:List bS) (id:Int) (v:aj) (hv:aB G (.sl 6 (l.map bS.dat)) v) :
  Calls prog 197 #[v,vi id] w0 (bV w0 G fun u G'=>u=.tuple #[vi (max (qN (Oq l id)) 0),.bool (Oq l id).isSome]):=by
 obtain ⟨A,c,rfl,hc1,hc2,-⟩:=hv.slice;rw [bN] at *;refine eN [(0,_),(1,_)] func197 rfl ntmps197 rfl rfl hG ?_;intro a H;refine cO (fun _ K1=>?_);refine fD (cs:=[_]) H wn rfl rfl rfl ?_;clear H;intro b3 a w hb3 H;refine kH H (Ra rfl (ak K1 rfl (SQ fun _ K2=>?_)));clear H K1;intro a H;obtain ⟨Ga,hma,Hy,H⟩:=H.eD
 have q3:aF Ga b3 0=some (vi id):=by unfold aF;rw [Hy];rfl
 refine kP H (SC (Rm rfl ?_));clear H;intro a H;refine pO H wn rfl rfl ?_;clear H;intro a H;refine s_call Y1 H wn rfl (abp _ _ H.ro l (fun x=>decide (x.id=id)) _ _ (hv.mono hma) (fun x _=>aip q3 x)) rfl ?_;clear H;rintro v9 G9 a w rfl JL H;refine kH H (aL K2 rfl (SR fun _ K3=>Rm rfl ?_));clear H K2;intro a H;refine FR H wn rfl rfl rfl ?_;clear H;intro a H;refine kH H (Rm rfl (Rc rfl (Ra rfl (ak K3 rfl ?_))));clear H K3;intro a H;refine dK ?_;refine (gY H results197 (.cons (bF H rfl) (.cons (bF H rfl) .nil)) ?_).1;exact H.rt (by rw [← abw];rfl)
def Ij (l:List bS) (kind id:Int):Bool:=match Oq l id with|some i=>decide ((l[i]?.map bS.kind)=some kind)|none=>false
theorem Vf (G:GH) (w0:World) (hG:Hold G w0) (l:List bS) (kind id:Int) (v:aj) (hv:aB G (.sl 6 (l.map bS.dat)) v) :
  Calls prog 154 #[v,vi kind,vi id] w0 (bV w0 G fun u G'=>u=.bool (Ij l kind id)):=by
 obtain ⟨A,c,rfl,hc1,hc2,-⟩:=hv.slice;rw [bN] at *;refine eN [(0,_),(1,_),(2,_)] func154 rfl ntmps154 rfl rfl hG ?_;intro a H;refine kP H (SR fun _ K1=>ak K1 rfl (SR fun _ K2=>Rm rfl (Rm rfl ?_)));clear H K1;intro a H;refine s_call agY H wn rfl (ait _ _ H.ro l id _ hv) rfl ?_;clear H;rintro v12 zU a w rfl Cy H;obtain ⟨o,ho⟩:∃ o,o=Oq l id:=⟨_,rfl⟩;rw [← ho] at H;refine kH H (Rm rfl ?_);clear H;intro a H;(iterate 2 refine nQ H wn rfl rfl rfl ?_;clear H;intro a H);refine kH H (Ra rfl (ak K2 rfl (SR fun _ K3=>Rm rfl (Rm rfl (Sp 16 rfl ?_ ?_))))) <;> clear H K2
 ·intro h16 a H
  try have p16:=dT h16
  obtain ⟨i,rfl⟩:=Option.isSome_iff_exists.1 h16
  have hil:i < l.length:=by
   obtain ⟨hi,-⟩:=List.findIdx?_eq_some_iff_getElem.1 ho.symm;exact hi
  rw [show max (qN (some i)) 0=(i:Int) by simp [qN]] at H;obtain ⟨b,o',pA,pc,rfl,hrow,hp,hrep⟩:=BQ (hv.mono Cy) hil;have r1:aF zU b (o'+i*6+1)=some (vi l[i].kind):=hrow 1 _ rfl;refine kH H (YM h16 rfl (YM h16 rfl (YI nR kN h16 rfl rfl (YF ze h16 rfl (YR aD h16 rfl (by assumption) ?_)))));clear H;intro a H;refine kH H (YM h16 rfl (YC h16 rfl (Pt h16 rfl (ak K3 rfl ?_))));clear H K3;intro a H;refine lr H results154 rfl ?_
  first
   | exact H.rt (aM (by rw [Ij,← ho];dsimp only;rw [fH hil];simp))
   | exact H.rt (aM (by rw [Ij,← ho];cases o <;> simp_all))
 intro h16 a H
 try have p16:=dF h16
 refine kH H (aZ h16 rfl (aT h16 rfl (aT h16 rfl (Pf h16 rfl (ak K3 rfl ?_)))));clear H K3;intro a H;refine lr H results154 rfl ?_
 first
  | exact H.rt (aM (by rw [Ij,← ho];dsimp only;rw [fH hil];simp))
  | exact H.rt (aM (by rw [Ij,← ho];cases o <;> simp_all))
end
section
open Go.RowKit
section
variable {N:Nat} {D:List Deferred} {w0:World} {F:Nat→Prop} {G0 G:GH} {L Li Lo:OL} {T:List (Nat × aj)}
variable {r:Option Nat} {P:Program} {ops:Array Oper} {Q:Exit→Act→World→Prop} {rest:List Oper} {a:Act} {w:World}
variable {d:Nat} {ty:TypeId} {pos:String} {aS:Array Edge} {g:Option (Nat × Bool)}
theorem V3 {t e:TypeId} {sz bytes:Nat} {zero:List aj} {agg:Bool} (hs:P.underlying t=some (.slice e)) (ht:Ty P e sz bytes zero agg) {x z:Operand} {A:Option Addr} {n c:Nat} (hi:Nat) {q:Int} (H:St N D w0 F G0 G L T a w)
  (hw:Region.wanted ⟨some d,.slice t x none (some z) none,ty,pos,aS,g⟩ (yielded ops a.tmps)=true) (hx:ev T x=some (.slice A n c)) (hz:ev T z=some (.int .i64 q)) (hq:q=(hi:Int)) (h2:hi≤c) (hd:Nat.blt d N=true)
  (k:∀ a',St N D w0 F G0 G L ((d,.slice A hi c) :: T) a' w→WL r P ops Q rest a' w):WL r P ops Q (⟨some d,.slice t x none (some z) none,ty,pos,aS,g⟩ :: rest) a w:=by
 subst hq
 refine ig (v:=.slice A hi c) (w':=w) hw rfl ?_ (k _ (H.put hd _ H.hp))
 simp [execOp,H.ev hx,H.ev hz,Instr.sliceAt,Instr.slice,Instr.sliceBounds,Instr.sliceBound,eY,oM hs,ht.CX,asIntOf,h2]
 intro _
 cases A with
 | none=>rfl
 | some p=>simp [Addr.add]
end
end
section
open Go.RowKit
theorem Od:∀ args w,(callFunc 194 args).run prog w=.ok (.enter 194 args) w:=enters func194 rfl (by kernel_rfl)
theorem agW:∀ args w,(callFunc 195 args).run prog w=.ok (.enter 195 args) w:=enters func195 rfl (by kernel_rfl)
theorem Sb:dL prog 156 5 5:=⟨by kernel_rfl⟩
theorem agX:∀ args w,(callFunc 196 args).run prog w=.ok (.enter 196 args) w:=enters func196 rfl (by kernel_rfl)
theorem R6:∀ args w,(callFunc 95 args).run prog w=.ok (.enter 95 args) w:=enters func95 rfl (by kernel_rfl)
theorem aB.pre {G:GH} {sz:Nat} {rows:List (List Dat)} {A:Option Addr} {n c:Nat} (h:aB G (.sl sz rows) (.slice A n c)) (k:Nat) (hk:k≤rows.length):aB G (.sl sz (rows.take k)) (.slice A k c):=by
 have h:=h.part 0 k (fQ _) hk
 have e:(if c=0 then A else A.map (·.add (0*sz)))=A:=by
  split
  ·rfl
  cases A <;> simp [Addr.add]
 rw [e] at h
 simpa using h
theorem agk (G:GH) (w0:World) (hG:Hold G w0) (kind:Int):Calls prog 196 #[vi kind] w0 (bV w0 G fun u G'=>u=vi (if kind=1 then 2 else 1)):=by
 refine eN [(0,_)] func196 rfl ntmps196 rfl rfl hG ?_;intro a H;refine kP H (SR fun _ K1=>ak K1 rfl (SQ fun _ K2=>SR fun _ K3=>Rm rfl (Rc rfl (Kz K3 (Cd rfl ?_ ?_))))) <;> clear H K1 K3
 ·intro h4 a H
  try have p4:=dT h4
  exact kP H (SR fun _ K4=>ak K4 rfl (LR results196 rfl fun H=>H.rt (by first|(rw [au (by omega)];done)|rw [ah (by omega)])))
 intro h4 a H
 try have p4:=dF h4
 exact kP H (Kc K2 (SR fun _ K5=>ak K5 rfl (LR results196 rfl fun H=>H.rt (by first|(rw [au (by omega)];done)|rw [ah (by omega)]))))
def Ar (l:List bS) (k:Nat):Option Int:=if k=0 then none else l[k - 1]?.map bS.id
theorem P6 {l:List bS} {k:Nat} (h:k=0):Ar l k=none:=au h
def Jd (k:Int):Bool:=decide (k=20) || decide (k=1)
def nA (q:Option Int) (dup:Bool) (s:bS):Int :=
 if s.id < 1∨1073741824 < s.id then 18 else if q=some s.id then 7 else if J6 q s.id=true then 6 else if s.kind≠1∧s.kind≠2 then 3 else if oL s.name=false then 13 else if dup=true then 7
 else if s.props.any (fun p=>Jd p.key)=true then 4 else iM (if s.kind=1 then 2 else 1) s.props
def jI (l:List bS) (k:Nat) (s:bS):Int:=nA (Ar l k) (Fb (l.take k) s.kind s.name).isSome s
set_option maxHeartbeats 1000000 in
theorem anu (G:GH) (w0:World) (hG:Hold G w0) (l:List bS) (k:Nat) (v:aj) (hv:aB G (.sl 6 (l.map bS.dat)) v) (hk:k < l.length) (hs:l[k].name.size≤4611686018427387904) :
  Calls prog 153 #[v,vi k] w0 (bV w0 G fun u G'=>u=vi (jI l k l[k])):=by
 obtain ⟨A,c,rfl,hc1,hc2,-⟩:=hv.slice;have hml:maxLen=9223372036854775807:=rfl;rw [bN] at *;obtain ⟨b,o,pA,pc,rfl,hrow,hp,hrep⟩:=BQ hv hk;obtain ⟨x,hx⟩:∃ x,x=l[k]:=⟨_,rfl⟩;rw [← hx] at hs hrow hp hrep ⊢;have hdp:∀ j v,[vi x.id,vi x.kind,.string x.name,vi x.base,vi x.next,.slice pA x.props.length pc][j]?=some v→aF G b (o+k*6+j)=some v:=hrow;obtain ⟨_,_,he0,arS,arT,-⟩:=hp.slice
 injection he0 with _ he1 he2
 rw [bN] at *;subst he2
 obtain ⟨pk,hpk⟩:∃ pk,0 < k→aF G b (o+(k - 1)*6+0)=some (vi pk)∧Ar l k=some pk:=by
  by_cases h0:0 < k
  ·obtain ⟨b',o',_,_,he,hr',-,-⟩:=BQ hv (show k - 1 < l.length by omega)
   injection he with he
   injection he with e1 e2 e3
   subst e1;subst e2;exact ⟨_,fun _=>⟨hr' 0 _ rfl,by rw [Ar,ah (by omega),fH (by omega)];rfl⟩⟩
  exact ⟨0,fun h=>absurd h h0⟩
 refine eN [(0,_),(1,_)] func153 rfl ntmps153 rfl rfl hG ?_;intro a H;refine kP H (SR fun _ K1=>ak K1 rfl (SR fun _ K2=>Rm rfl (Rm rfl (Ri nR kN rfl rfl ?_))));clear H K1;intro a H;refine bK kN (cs:=[_,_,_,_,_,_]) H wn rfl rfl (fun j v hj=>H.hp.aF (hrow j v hj)) rfl ?_;clear H;intro a H;refine dY kN H wn rfl ?_;clear H;intro b5 a w hb5 H;refine bT kN 0 (vs:=[_,_,_,_,_,_]) _ H wn rfl rfl rfl rfl rfl rfl rfl rfl ?_;clear H;intro w H;dsimp only [List.set,setRow] at H;refine K2 _ _ ?_;clear K2;refine oG (ι:=GH) (Tc:=[(0,_),(1,_),(5,_)]) (Lc:=[(_,_)]) (fun gh=>[]) (fun gh=>[]) (fun gh=>gh) (fun gh=>¬ (x.id < 1∨1073741824 < x.id)∧¬ Ar l k=some x.id∧¬ J6 (Ar l k) x.id=true∧¬ (x.kind≠1∧x.kind≠2)∧¬ oL x.name=false∧(∀ b o,G b=some o→gh b=some o)) (by exact (H).sub ⟨rfl,rfl,rfl,av⟩) ?_ ?_
 ·skip;refine kP H (SB (SR fun _ K3=>aR wE aD 0 rfl rfl (Rc rfl (Rm rfl (Sp 18 rfl ?_ ?_))))) <;> clear H
  ·intro h18 a H
   try have tQ:=dT h18
   refine kH H (aZ h18 rfl (Pt h18 rfl (ak K3 rfl (Ct rfl rfl (SR fun _ K4=>ak K4 rfl ?_)))));clear H K3 K4;intro a H;refine lr H results153 rfl ?_
   first
    | exact H.rt (ay vi e0.symm)
    | exact H.rt (ay vi e4.symm)
    | exact H.rt (ay vi e7.symm)
    | exact H.rt (ay vi e13.symm)
    | exact H.rt (ay vi e3.symm)
    | exact H.rt (ay vi e6.symm)
    | exact H.rt (ay vi (by rw [jI,nA,au (by omega)]))
  intro h18 a H
  try have tQ:=dF h18
  refine kH H (YF wE h18 rfl (YO aD 0 h18 rfl (YC h18 rfl (Pf h18 rfl (ak K3 rfl (Cd rfl ?_ ?_)))))) <;> clear H K3
  ·intro gT a H
   try have sK:=dT gT
   refine kP H (SR fun _ K5=>ak K5 rfl ?_);clear H K5;intro a H;refine lr H results153 rfl ?_
   first
    | exact H.rt (ay vi e0.symm)
    | exact H.rt (ay vi e4.symm)
    | exact H.rt (ay vi e7.symm)
    | exact H.rt (ay vi e13.symm)
    | exact H.rt (ay vi e3.symm)
    | exact H.rt (ay vi e6.symm)
    | exact H.rt (ay vi (by rw [jI,nA,au (by omega)]))
  intro gT a H
  try have sK:=dF gT
  refine aN (fun _ K6=>?_)
  by_cases c0:0 < (k:Int)
  ·skip
   by_cases c1:x.id=pk
   ·skip;refine dI hmx [[],[0],[0,1],[0,1,2],(ra 0 4),[0,1,2],[0,1,2],[0,1,2,6],[0,1,2,5,6,7],[0,1,2,5,6,7,8],[0,1,2,5,6,7,8,9],(ra 0 11),(ra 0 12),(ra 0 13)] [13] (by kernel_rfl) [_,_,_,_,vi x.id,_,_,vi ((k - 1:Nat):Int),_,_,_,_,_] H (aI (Z0 rfl (Rm rfl)) (Z1 0 24 rfl (Rc rfl)) (Z1 1 25 rfl (Rm rfl)) (Z1 2 26 rfl (YF wE (aG c0) rfl)) (aI (Z2 3 27 2 26 rfl (YO aD 0 (aG c0) rfl)) (Z1 2 26 rfl (YM (aG c0) rfl)) (Z1 2 26 rfl (YM (aG c0) rfl)) ?_ (aI (Z3 5 29 7 31 2 26 rfl (YI nR kN (aG c0) rfl rfl)) (Z2 8 32 2 26 rfl (YF wE (aG c0) rfl)) (X2 9 33 2 26 rfl fun hG=>YR aD (aG c0) rfl (aJ hG (hpk (by omega)).1)) (Z3 4 28 10 34 2 26 rfl (YC (aG c0) rfl)) (bG (Z2 2 26 11 35 rfl (Pt (aG c0) rfl)) (bG (cZ rfl) dQ))))) ?_
    ·refine fu 6 30 2 26 rfl rfl fun _ a w G1 hG HT H fin=>?_;refine mQ _ H (wg H rfl rfl (aG c0)) rfl rfl rfl (by omega) (by omega) rfl ?_;clear H;intro a H;exact fin H iJ (by show _=_;first|rfl|exact ay vi (by omega))
    clear H;intro a w G uJ H hv;have H:=H.bC (hv 12 36 rfl rfl) rfl;clear hv;refine kH H (Ra rfl ?_);clear H;intro a H;refine aH ⟨rfl,?_⟩;refine K6 _ _ ?_;clear K6;refine AX H rfl (aG c1) ?_;refine aN (fun _ K7=>?_)
    have e7:jI l k x=7:=by rw [jI,nA,ah (by omega),au (by rw [(hpk (by omega)).2,c1])]
    refine kP H (SC (aL K7 rfl ?_));clear H K7;intro a H;refine lr H results153 rfl ?_
    first
     | exact H.rt (ay vi e0.symm)
     | exact H.rt (ay vi e4.symm)
     | exact H.rt (ay vi e7.symm)
     | exact H.rt (ay vi e13.symm)
     | exact H.rt (ay vi e3.symm)
     | exact H.rt (ay vi e6.symm)
     | exact H.rt (ay vi (by rw [jI,nA,au (by omega)]))
   skip;refine dI hmx [[],[0],[0,1],[0,1,2],(ra 0 4),[0,1,2],[0,1,2],[0,1,2,6],[0,1,2,5,6,7],[0,1,2,5,6,7,8],[0,1,2,5,6,7,8,9],(ra 0 11),(ra 0 12),(ra 0 13)] [13] (by kernel_rfl) [_,_,_,_,vi x.id,_,_,vi ((k - 1:Nat):Int),_,_,_,_,_] H (aI (Z0 rfl (Rm rfl)) (Z1 0 24 rfl (Rc rfl)) (Z1 1 25 rfl (Rm rfl)) (Z1 2 26 rfl (YF wE (aG c0) rfl)) (aI (Z2 3 27 2 26 rfl (YO aD 0 (aG c0) rfl)) (Z1 2 26 rfl (YM (aG c0) rfl)) (Z1 2 26 rfl (YM (aG c0) rfl)) ?_ (aI (Z3 5 29 7 31 2 26 rfl (YI nR kN (aG c0) rfl rfl)) (Z2 8 32 2 26 rfl (YF wE (aG c0) rfl)) (X2 9 33 2 26 rfl fun hG=>YR aD (aG c0) rfl (aJ hG (hpk (by omega)).1)) (Z3 4 28 10 34 2 26 rfl (YC (aG c0) rfl)) (bG (Z2 2 26 11 35 rfl (Pt (aG c0) rfl)) (bG (cZ rfl) dQ))))) ?_
   ·refine fu 6 30 2 26 rfl rfl fun _ a w G1 hG HT H fin=>?_;refine mQ _ H (wg H rfl rfl (aG c0)) rfl rfl rfl (by omega) (by omega) rfl ?_;clear H;intro a H;exact fin H iJ (by show _=_;first|rfl|exact ay vi (by omega))
   clear H;intro a w G uJ H hv;have H:=H.bC (hv 12 36 rfl rfl) rfl;clear hv;refine kH H (Ra rfl ?_);clear H;intro a H;refine aH ⟨rfl,?_⟩;refine K6 _ _ ?_;clear K6;refine oF H rfl (aQ c1) ?_;refine aN (fun _ K8=>?_)
   have q1:¬ (0 < (k:Int)∧x.id=pk):=by first|exact fun h=>c1 h.2|exact fun h=>c0 h.1
   have q1':¬ Ar l k=some x.id:=fun h=>q1 (by
    by_cases h0:0 < k
    ·rw [(hpk h0).2] at h
     injection h with h
     exact ⟨by omega,h.symm⟩
    rw [P6 (by omega)] at h
    cases h)
   by_cases c3:x.id < pk
   ·skip;refine dI hmx [[],[0],[0,1],[0,1,2],(ra 0 4),[0,1,2],[0,1,2],[0,1,2,6],[0,1,2,5,6,7],[0,1,2,5,6,7,8],[0,1,2,5,6,7,8,9],(ra 0 11),(ra 0 12),(ra 0 13)] [13] (by kernel_rfl) [_,_,_,_,vi x.id,_,_,vi ((k - 1:Nat):Int),_,_,_,_,_] H (aI (Z0 rfl (Rm rfl)) (Z1 0 38 rfl (Rc rfl)) (Z1 1 39 rfl (Rm rfl)) (Z1 2 40 rfl (YF wE (aG c0) rfl)) (aI (Z2 3 41 2 40 rfl (YO aD 0 (aG c0) rfl)) (Z1 2 40 rfl (YM (aG c0) rfl)) (Z1 2 40 rfl (YM (aG c0) rfl)) ?_ (aI (Z3 5 43 7 45 2 40 rfl (YI nR kN (aG c0) rfl rfl)) (Z2 8 46 2 40 rfl (YF wE (aG c0) rfl)) (X2 9 47 2 40 rfl fun hG=>YR aD (aG c0) rfl (aJ hG (aJ uJ (hpk (by omega)).1))) (Z3 4 42 10 48 2 40 rfl (YC (aG c0) rfl)) (bG (Z2 2 40 11 49 rfl (Pt (aG c0) rfl)) (bG (cZ rfl) dQ))))) ?_
    ·refine fu 6 44 2 40 rfl rfl fun _ a w G1 hG HT H fin=>?_;refine mQ _ H (wg H rfl rfl (aG c0)) rfl rfl rfl (by omega) (by omega) rfl ?_;clear H;intro a H;exact fin H iJ (by show _=_;first|rfl|exact ay vi (by omega))
    clear H;intro a w G lI H hv;have H:=H.bC (hv 12 50 rfl rfl) rfl;clear hv;refine kH H (Ra rfl ?_);clear H;intro a H;refine aH ⟨rfl,?_⟩;refine K8 _ _ ?_;clear K8;refine AX H rfl (aG c3) ?_;refine aN (fun _ K9=>?_)
    have e6:jI l k x=6:=by rw [jI,nA,ah (by omega),ah q1',au (by rw [(hpk (by omega)).2];exact aG c3)]
    refine kP H (SC (aL K9 rfl ?_));clear H K9;intro a H;refine lr H results153 rfl ?_
    first
     | exact H.rt (ay vi e0.symm)
     | exact H.rt (ay vi e4.symm)
     | exact H.rt (ay vi e7.symm)
     | exact H.rt (ay vi e13.symm)
     | exact H.rt (ay vi e3.symm)
     | exact H.rt (ay vi e6.symm)
     | exact H.rt (ay vi (by rw [jI,nA,au (by omega)]))
   skip;refine dI hmx [[],[0],[0,1],[0,1,2],(ra 0 4),[0,1,2],[0,1,2],[0,1,2,6],[0,1,2,5,6,7],[0,1,2,5,6,7,8],[0,1,2,5,6,7,8,9],(ra 0 11),(ra 0 12),(ra 0 13)] [13] (by kernel_rfl) [_,_,_,_,vi x.id,_,_,vi ((k - 1:Nat):Int),_,_,_,_,_] H (aI (Z0 rfl (Rm rfl)) (Z1 0 38 rfl (Rc rfl)) (Z1 1 39 rfl (Rm rfl)) (Z1 2 40 rfl (YF wE (aG c0) rfl)) (aI (Z2 3 41 2 40 rfl (YO aD 0 (aG c0) rfl)) (Z1 2 40 rfl (YM (aG c0) rfl)) (Z1 2 40 rfl (YM (aG c0) rfl)) ?_ (aI (Z3 5 43 7 45 2 40 rfl (YI nR kN (aG c0) rfl rfl)) (Z2 8 46 2 40 rfl (YF wE (aG c0) rfl)) (X2 9 47 2 40 rfl fun hG=>YR aD (aG c0) rfl (aJ hG (aJ uJ (hpk (by omega)).1))) (Z3 4 42 10 48 2 40 rfl (YC (aG c0) rfl)) (bG (Z2 2 40 11 49 rfl (Pt (aG c0) rfl)) (bG (cZ rfl) dQ))))) ?_
   ·refine fu 6 44 2 40 rfl rfl fun _ a w G1 hG HT H fin=>?_;refine mQ _ H (wg H rfl rfl (aG c0)) rfl rfl rfl (by omega) (by omega) rfl ?_;clear H;intro a H;exact fin H iJ (by show _=_;first|rfl|exact ay vi (by omega))
   clear H;intro a w G lI H hv;have H:=H.bC (hv 12 50 rfl rfl) rfl;clear hv;refine kH H (Ra rfl ?_);clear H;intro a H;refine aH ⟨rfl,?_⟩;refine K8 _ _ ?_;clear K8;refine oF H rfl (aQ c3) ?_;refine aN (fun _ aU=>?_)
   have q2:¬ (0 < (k:Int)∧x.id < pk):=by first|exact fun h=>c3 h.2|exact fun h=>c0 h.1
   have q2':¬ J6 (Ar l k) x.id=true:=fun h=>q2 (by
    by_cases h0:0 < k
    ·rw [(hpk h0).2] at h;exact ⟨by omega,oU h⟩
    rw [P6 (by omega)] at h
    cases h)
   refine kP H (SC (aR ze aD 0 rfl rfl (Rc rfl (Rm rfl (Sp 55 rfl ?_ ?_))))) <;> clear H
   ·intro nM a H
    try have p55:=dT nM
    refine kH H (YF ze nM rfl (YO aD 0 nM rfl (YC nM rfl (Pt nM rfl (aL aU rfl (Cd rfl ?_ ?_)))))) <;> clear H aU
    ·intro lH a H
     try have p51:=dT lH
     refine aN (fun _ bD=>?_)
     have e3:jI l k x=3:=by rw [jI,nA,ah (by omega),ah q1',ah q2',au (by omega)]
     refine kP H (SC (aL bD rfl ?_));clear H bD;intro a H;refine lr H results153 rfl ?_
     first
      | exact H.rt (ay vi e0.symm)
      | exact H.rt (ay vi e4.symm)
      | exact H.rt (ay vi e7.symm)
      | exact H.rt (ay vi e13.symm)
      | exact H.rt (ay vi e3.symm)
      | exact H.rt (ay vi e6.symm)
      | exact H.rt (ay vi (by rw [jI,nA,au (by omega)]))
    intro lH a H
    try have p51:=dF lH
    refine kP H (SR fun _ bE=>aR Jq gZ 0 rfl rfl ?_);clear H;intro a H;refine s_call Od H wn rfl (Pv _ _ H.ro x.name hs) rfl ?_;clear H;rintro v63 F5 a w rfl hm63 H;refine kH H (Rn rfl (ak bE rfl (Cd rfl ?_ ?_))) <;> clear H bE
    ·intro fB a H
     try have p60:=dT fB
     refine aN (fun _ bQ=>?_)
     have e13:jI l k x=13:=by rw [jI,nA,ah (by omega),ah q1',ah q2',ah (by omega),au (by simpa using fB)]
     refine kP H (SC (aL bQ rfl ?_));clear H bQ;intro a H;refine lr H results153 rfl ?_
     first
      | exact H.rt (ay vi e0.symm)
      | exact H.rt (ay vi e4.symm)
      | exact H.rt (ay vi e7.symm)
      | exact H.rt (ay vi e13.symm)
      | exact H.rt (ay vi e3.symm)
      | exact H.rt (ay vi e6.symm)
      | exact H.rt (ay vi (by rw [jI,nA,au (by omega)]))
    intro fB a H
    try have p60:=dF fB
    refine fT ?_;refine ⟨F5,by exact (H).sub ⟨rfl,rfl,rfl,av⟩,?_⟩;exact ⟨by omega,q1',q2',by omega,by simpa using fB,fun b o h=>hm63 b o (lI b o (uJ b o h))⟩
   intro nM a H
   try have p55:=dF nM
   refine kH H (aZ nM rfl (Pf nM rfl (aL aU rfl (Cf rfl rfl (SR fun _ bR=>aR Jq gZ 0 rfl rfl ?_)))));clear H aU;intro a H;refine s_call Od H wn rfl (Pv _ _ H.ro x.name hs) rfl ?_;clear H;rintro v63 F5 a w rfl hm63 H;refine kH H (Rn rfl (ak bR rfl (Cd rfl ?_ ?_))) <;> clear H bR
   ·intro fB a H
    try have p60:=dT fB
    refine aN (fun _ bW=>?_)
    have e13:jI l k x=13:=by rw [jI,nA,ah (by omega),ah q1',ah q2',ah (by omega),au (by simpa using fB)]
    refine kP H (SC (aL bW rfl ?_));clear H bW;intro a H;refine lr H results153 rfl ?_
    first
     | exact H.rt (ay vi e0.symm)
     | exact H.rt (ay vi e4.symm)
     | exact H.rt (ay vi e7.symm)
     | exact H.rt (ay vi e13.symm)
     | exact H.rt (ay vi e3.symm)
     | exact H.rt (ay vi e6.symm)
     | exact H.rt (ay vi (by rw [jI,nA,au (by omega)]))
   intro fB a H
   try have p60:=dF fB
   refine fT ?_;refine ⟨F5,by exact (H).sub ⟨rfl,rfl,rfl,av⟩,?_⟩;exact ⟨by omega,q1',q2',by omega,by simpa using fB,fun b o h=>hm63 b o (lI b o (uJ b o h))⟩
  skip;refine dI hmx [[],[0],[0,1],[0,1,2],(ra 0 4),[0,1,2],[0,1,2],[0,1,2,6],[0,1,2,5,6,7],[0,1,2,5,6,7,8],[0,1,2,5,6,7,8,9],(ra 0 11),(ra 0 12),(ra 0 13)] [13] (by kernel_rfl) [_,_,_,undef,undef,undef,undef,undef,undef,undef,undef,undef,_] H (aI (Z0 rfl (Rm rfl)) (Z1 0 24 rfl (Rc rfl)) (Z1 1 25 rfl (Rm rfl)) (aV (j:=2) (by kernel_rfl) (fun _ _ _ _ _ h=>h) rfl rfl rfl rfl rfl (fun _ _ h=>aW h (aM (aQ c0))) rfl (fun _=>rfl)) (aI (aV (j:=2) (by kernel_rfl) (fun _ _ _ _ _ h=>h) rfl rfl rfl rfl rfl (fun _ _ h=>aW h (aM (aQ c0))) rfl (fun _=>rfl)) (aV (j:=2) (by kernel_rfl) (fun _ _ _ _ _ h=>h) rfl rfl rfl rfl rfl (fun _ _ h=>aW h (aM (aQ c0))) rfl (fun _=>rfl)) (aV (j:=2) (by kernel_rfl) (fun _ _ _ _ _ h=>h) rfl rfl rfl rfl rfl (fun _ _ h=>aW h (aM (aQ c0))) rfl (fun _=>rfl)) (aV (j:=2) (by kernel_rfl) (fun _ _ _ _ _ h=>h) rfl rfl rfl rfl rfl (fun _ _ h=>aW h (aM (aQ c0))) rfl (fun _=>rfl)) (aI (aV (j:=2) (by kernel_rfl) (fun _ _ _ _ _ h=>h) rfl rfl rfl rfl rfl (fun _ _ h=>aW h (aM (aQ c0))) rfl (fun _=>rfl)) (aV (j:=2) (by kernel_rfl) (fun _ _ _ _ _ h=>h) rfl rfl rfl rfl rfl (fun _ _ h=>aW h (aM (aQ c0))) rfl (fun _=>rfl)) (aV (j:=2) (by kernel_rfl) (fun _ _ _ _ _ h=>h) rfl rfl rfl rfl rfl (fun _ _ h=>aW h (aM (aQ c0))) rfl (fun _=>rfl)) (aV (j:=2) (by kernel_rfl) (fun _ _ _ _ _ h=>h) rfl rfl rfl rfl rfl (fun _ _ h=>aW h (aM (aQ c0))) rfl (fun _=>rfl)) (bG (Z2 2 26 11 35 rfl (Pf (aQ c0) rfl)) (bG (cZ rfl) dQ))))) ?_
  clear H;intro a w G uJ H hv;have H:=H.bC (hv 12 36 rfl rfl) rfl;clear hv;refine kH H (Ra rfl ?_);clear H;intro a H;refine aH ⟨rfl,?_⟩;refine K6 _ _ ?_;clear K6;refine oF H rfl rfl ?_;refine aN (fun _ cK=>?_)
  have q1:¬ (0 < (k:Int)∧x.id=pk):=by first|exact fun h=>c1 h.2|exact fun h=>c0 h.1
  have q1':¬ Ar l k=some x.id:=fun h=>q1 (by
   by_cases h0:0 < k
   ·rw [(hpk h0).2] at h
    injection h with h
    exact ⟨by omega,h.symm⟩
   rw [P6 (by omega)] at h
   cases h)
  refine dI hmx [[],[0],[0,1],[0,1,2],(ra 0 4),[0,1,2],[0,1,2],[0,1,2,6],[0,1,2,5,6,7],[0,1,2,5,6,7,8],[0,1,2,5,6,7,8,9],(ra 0 11),(ra 0 12),(ra 0 13)] [13] (by kernel_rfl) [_,_,_,undef,undef,undef,undef,undef,undef,undef,undef,undef,_] H (aI (Z0 rfl (Rm rfl)) (Z1 0 38 rfl (Rc rfl)) (Z1 1 39 rfl (Rm rfl)) (aV (j:=2) (by kernel_rfl) (fun _ _ _ _ _ h=>h) rfl rfl rfl rfl rfl (fun _ _ h=>aW h (aM (aQ c0))) rfl (fun _=>rfl)) (aI (aV (j:=2) (by kernel_rfl) (fun _ _ _ _ _ h=>h) rfl rfl rfl rfl rfl (fun _ _ h=>aW h (aM (aQ c0))) rfl (fun _=>rfl)) (aV (j:=2) (by kernel_rfl) (fun _ _ _ _ _ h=>h) rfl rfl rfl rfl rfl (fun _ _ h=>aW h (aM (aQ c0))) rfl (fun _=>rfl)) (aV (j:=2) (by kernel_rfl) (fun _ _ _ _ _ h=>h) rfl rfl rfl rfl rfl (fun _ _ h=>aW h (aM (aQ c0))) rfl (fun _=>rfl)) (aV (j:=2) (by kernel_rfl) (fun _ _ _ _ _ h=>h) rfl rfl rfl rfl rfl (fun _ _ h=>aW h (aM (aQ c0))) rfl (fun _=>rfl)) (aI (aV (j:=2) (by kernel_rfl) (fun _ _ _ _ _ h=>h) rfl rfl rfl rfl rfl (fun _ _ h=>aW h (aM (aQ c0))) rfl (fun _=>rfl)) (aV (j:=2) (by kernel_rfl) (fun _ _ _ _ _ h=>h) rfl rfl rfl rfl rfl (fun _ _ h=>aW h (aM (aQ c0))) rfl (fun _=>rfl)) (aV (j:=2) (by kernel_rfl) (fun _ _ _ _ _ h=>h) rfl rfl rfl rfl rfl (fun _ _ h=>aW h (aM (aQ c0))) rfl (fun _=>rfl)) (aV (j:=2) (by kernel_rfl) (fun _ _ _ _ _ h=>h) rfl rfl rfl rfl rfl (fun _ _ h=>aW h (aM (aQ c0))) rfl (fun _=>rfl)) (bG (Z2 2 40 11 49 rfl (Pf (aQ c0) rfl)) (bG (cZ rfl) dQ))))) ?_
  clear H;intro a w G lI H hv;have H:=H.bC (hv 12 50 rfl rfl) rfl;clear hv;refine kH H (Ra rfl ?_);clear H;intro a H;refine aH ⟨rfl,?_⟩;refine cK _ _ ?_;clear cK;refine oF H rfl rfl ?_;refine aN (fun _ bY=>?_)
  have q2:¬ (0 < (k:Int)∧x.id < pk):=by first|exact fun h=>c3 h.2|exact fun h=>c0 h.1
  have q2':¬ J6 (Ar l k) x.id=true:=fun h=>q2 (by
   by_cases h0:0 < k
   ·rw [(hpk h0).2] at h;exact ⟨by omega,oU h⟩
   rw [P6 (by omega)] at h
   cases h)
  refine kP H (SC (aR ze aD 0 rfl rfl (Rc rfl (Rm rfl (Sp 55 rfl ?_ ?_))))) <;> clear H
  ·intro nM a H
   try have p55:=dT nM
   refine kH H (YF ze nM rfl (YO aD 0 nM rfl (YC nM rfl (Pt nM rfl (aL bY rfl (Cd rfl ?_ ?_)))))) <;> clear H bY
   ·intro lH a H
    try have p51:=dT lH
    refine aN (fun _ dG=>?_)
    have e3:jI l k x=3:=by rw [jI,nA,ah (by omega),ah q1',ah q2',au (by omega)]
    refine kP H (SC (aL dG rfl ?_));clear H dG;intro a H;refine lr H results153 rfl ?_
    first
     | exact H.rt (ay vi e0.symm)
     | exact H.rt (ay vi e4.symm)
     | exact H.rt (ay vi e7.symm)
     | exact H.rt (ay vi e13.symm)
     | exact H.rt (ay vi e3.symm)
     | exact H.rt (ay vi e6.symm)
     | exact H.rt (ay vi (by rw [jI,nA,au (by omega)]))
   intro lH a H
   try have p51:=dF lH
   refine kP H (SR fun _ dN=>aR Jq gZ 0 rfl rfl ?_);clear H;intro a H;refine s_call Od H wn rfl (Pv _ _ H.ro x.name hs) rfl ?_;clear H;rintro v63 F5 a w rfl hm63 H;refine kH H (Rn rfl (ak dN rfl (Cd rfl ?_ ?_))) <;> clear H dN
   ·intro fB a H
    try have p60:=dT fB
    refine aN (fun _ dH=>?_)
    have e13:jI l k x=13:=by rw [jI,nA,ah (by omega),ah q1',ah q2',ah (by omega),au (by simpa using fB)]
    refine kP H (SC (aL dH rfl ?_));clear H dH;intro a H;refine lr H results153 rfl ?_
    first
     | exact H.rt (ay vi e0.symm)
     | exact H.rt (ay vi e4.symm)
     | exact H.rt (ay vi e7.symm)
     | exact H.rt (ay vi e13.symm)
     | exact H.rt (ay vi e3.symm)
     | exact H.rt (ay vi e6.symm)
     | exact H.rt (ay vi (by rw [jI,nA,au (by omega)]))
   intro fB a H
   try have p60:=dF fB
   refine fT ?_;refine ⟨F5,by exact (H).sub ⟨rfl,rfl,rfl,av⟩,?_⟩;exact ⟨by omega,q1',q2',by omega,by simpa using fB,fun b o h=>hm63 b o (lI b o (uJ b o h))⟩
  intro nM a H
  try have p55:=dF nM
  refine kH H (aZ nM rfl (Pf nM rfl (aL bY rfl (Cf rfl rfl (SR fun _ dP=>aR Jq gZ 0 rfl rfl ?_)))));clear H bY;intro a H;refine s_call Od H wn rfl (Pv _ _ H.ro x.name hs) rfl ?_;clear H;rintro v63 F5 a w rfl hm63 H;refine kH H (Rn rfl (ak dP rfl (Cd rfl ?_ ?_))) <;> clear H dP
  ·intro fB a H
   try have p60:=dT fB
   refine aN (fun _ eT=>?_)
   have e13:jI l k x=13:=by rw [jI,nA,ah (by omega),ah q1',ah q2',ah (by omega),au (by simpa using fB)]
   refine kP H (SC (aL eT rfl ?_));clear H eT;intro a H;refine lr H results153 rfl ?_
   first
    | exact H.rt (ay vi e0.symm)
    | exact H.rt (ay vi e4.symm)
    | exact H.rt (ay vi e7.symm)
    | exact H.rt (ay vi e13.symm)
    | exact H.rt (ay vi e3.symm)
    | exact H.rt (ay vi e6.symm)
    | exact H.rt (ay vi (by rw [jI,nA,au (by omega)]))
  intro fB a H
  try have p60:=dF fB
  refine fT ?_;refine ⟨F5,by exact (H).sub ⟨rfl,rfl,rfl,av⟩,?_⟩;exact ⟨by omega,q1',q2',by omega,by simpa using fB,fun b o h=>hm63 b o (lI b o (uJ b o h))⟩
 clear H;intro g a w hI H;obtain ⟨q0,q1',q2',q3,q4,hgm⟩:=hI;dsimp only [lca,aO] at H;refine aN (fun _ fP=>?_);refine aN (fun _ gq=>?_);have aaT:=(hv.mono hgm).pre k (by rw [bN];omega);rw [← List.map_take] at aaT;have akR:=hp.mono hgm;refine dI hmx [[],[],[0,1],[],[3],[],[5],(ra 0 7),(ra 0 8),(ra 0 9),(ra 0 9),(ra 0 10),(ra 0 12)] [12] (by kernel_rfl) [_,_,.slice (some ⟨b,o,none⟩) k c,_,vi x.kind,_,.string x.name,.tuple #[vi (max (qN (Fb (l.take k) x.kind x.name)) 0),.bool (Fb (l.take k) x.kind x.name).isSome],_,vi (max (qN (Fb (l.take k) x.kind x.name)) 0),.bool (Fb (l.take k) x.kind x.name).isSome,_] H (aI (Z0 rfl (Rm rfl)) (Z0 rfl (Rm rfl)) ?_ (Z0 rfl (Rf ze rfl)) (aI (Z1 3 69 rfl (Ro aD 0 rfl)) (Z0 rfl (Rf Jq rfl)) (Z1 5 71 rfl (Ro gZ 0 rfl)) ?_ (aI (Z1 7 73 rfl (Rm rfl)) ?_ ?_ (Z1 9 74 rfl (Ra rfl)) (bG (cZ rfl) dQ)))) ?_
 ·refine fu 0 66 1 67 rfl rfl fun _ a w G1 hG HT H fin=>?_;refine V3 nR kN k H wn rfl rfl rfl (by omega) rfl ?_;clear H;intro a H;exact fin H iJ rfl
 ·refine wh 2 68 4 70 6 72 rfl rfl fun _ a w G1 hG HT H fin=>?_;refine s_call agW H wn rfl (air _ _ H.ro (l.take k) x.kind x.name _ (aaT.mono hG)) rfl ?_;clear H;rintro v73 G73 a w rfl ajb H;exact fin H ajb (rfl)
 ·refine fq 8 65 rfl rfl fun _ a w G1 hG HT H fin=>?_;refine nQ H wn rfl rfl rfl ?_;clear H;intro a H;exact fin H iJ rfl
 ·refine fq 8 65 rfl rfl fun _ a w G1 hG HT H fin=>?_;refine nQ H wn rfl rfl rfl ?_;clear H;intro a H;exact fin H iJ rfl
 clear H;intro a w G tH H hv;have H:=H.bC (hv 10 75 rfl rfl) rfl;clear hv;refine kH H (Ra rfl ?_);clear H;intro a H;refine aH ⟨rfl,?_⟩;refine gq _ _ ?_;clear gq;refine kP H (SR fun _ gG=>Rm rfl (Kz gG (Cd rfl ?_ ?_))) <;> clear H gG
 ·intro sF a H
  try have VB:=dT sF
  refine aN (fun _ iP=>?_)
  have e7:jI l k x=7:=by rw [jI,nA,ah (by omega),ah q1',ah q2',ah q3,ah q4,au sF]
  refine kP H (SC (aL iP rfl ?_));clear H iP;intro a H;refine lr H results153 rfl ?_
  first
   | exact H.rt (ay vi e0.symm)
   | exact H.rt (ay vi e4.symm)
   | exact H.rt (ay vi e7.symm)
   | exact H.rt (ay vi e13.symm)
   | exact H.rt (ay vi e3.symm)
   | exact H.rt (ay vi e6.symm)
   | exact H.rt (ay vi (by rw [jI,nA,au (by omega)]))
 intro sF a H
 try have VB:=dF sF
 refine kP H (Kc fP (SQ fun _ jm=>SQ fun _ iH=>?_));clear H fP;intro a H
 have q5:¬ (Fb (l.take k) x.kind x.name).isSome=true:=by simpa using sF
 have FC:=akR.mono tH;refine kP H (SC (aR Sb zM 0 rfl rfl (Rl tV rfl (Rm rfl (Kn iH (SB ?_))))));clear H iH;intro a H;skip;refine dV (ι:=Nat) (Tc:=[(5,_),(78,_),(79,_)]) (Lc:=[(_,_)]) (fun gh=>[(80,vi gh)]) (fun gh=>[]) (fun gh=>G) (fun gh=>gh≤x.props.length∧(x.props.take gh).any (fun p=>Jd p.key)=false) (fun gh=>x.props.length - gh) (0) (by exact (H).sub ⟨rfl,rfl,rfl,rfl,av⟩) ?_ ?_
 ·exact ⟨fQ _,rfl⟩
 clear H;intro n a w hI H;obtain ⟨hn,hno⟩:=hI;dsimp only [lca,aO] at H;refine kP H (SR fun _ kW=>Rc rfl (Kz kW (SQ fun _ kX=>Cd rfl ?_ ?_))) <;> clear H kW
 ·intro nN a H
  try have yD:=dT nN
  have hn2:n < x.props.length:=by omega
  obtain ⟨pb,po,rfl,hrow2⟩:=M4 FC hn2;have hrow:=hrow2;refine kP H (Kc kX (SQ fun _ jQ=>SB (SR fun _ lC=>Ri tV tT rfl rfl ?_)));clear H kX;intro a H;refine bK tT (cs:=[_,_]) H wn rfl rfl (fun j v hj=>H.hp.aF (hrow j v hj)) rfl ?_;clear H;intro a H;refine dY tT H wn rfl ?_;clear H;intro b9 a w uL H;refine bT tT 0 (vs:=[_,_]) _ H wn rfl rfl rfl rfl rfl rfl rfl rfl ?_;clear H;intro w H;dsimp only [List.set,setRow] at H;refine lC _ _ ?_;clear lC;refine kP H (SR fun _ lD=>aR xV aD 0 rfl rfl (Rc rfl (Rm rfl (Sp 87 rfl ?_ ?_)))) <;> clear H
  ·intro h87 a H
   try have VG:=dT h87
   refine kH H (aZ h87 rfl (Pt h87 rfl (Kz lD (Ct rfl rfl (SQ fun _ lX=>?_)))));clear H lD;intro a H
   have e4:jI l k x=4:=by
    rw [jI,nA,ah (by omega),ah q1',ah q2',ah q3,ah q4,ah q5,au];rw [List.any_eq_true];exact ⟨x.props[n],jD hn2,by simp [Jd];omega⟩
   refine kP H (SC (aL lX rfl ?_));clear H lX;intro a H;refine lr H results153 rfl ?_
   first
    | exact H.rt (ay vi e0.symm)
    | exact H.rt (ay vi e4.symm)
    | exact H.rt (ay vi e7.symm)
    | exact H.rt (ay vi e13.symm)
    | exact H.rt (ay vi e3.symm)
    | exact H.rt (ay vi e6.symm)
    | exact H.rt (ay vi (by rw [jI,nA,au (by omega)]))
  intro h87 a H
  try have VG:=dF h87
  refine kH H (YF xV h87 rfl (YO aD 0 h87 rfl (YC h87 rfl (Pf h87 rfl (Kz lD (Cd rfl ?_ ?_)))))) <;> clear H lD
  ·intro Af a H
   try have zI:=dT Af
   refine aN (fun _ lY=>?_)
   have e4:jI l k x=4:=by
    rw [jI,nA,ah (by omega),ah q1',ah q2',ah q3,ah q4,ah q5,au];rw [List.any_eq_true];exact ⟨x.props[n],jD hn2,by simp [Jd];omega⟩
   refine kP H (SC (aL lY rfl ?_));clear H lY;intro a H;refine lr H results153 rfl ?_
   first
    | exact H.rt (ay vi e0.symm)
    | exact H.rt (ay vi e4.symm)
    | exact H.rt (ay vi e7.symm)
    | exact H.rt (ay vi e13.symm)
    | exact H.rt (ay vi e3.symm)
    | exact H.rt (ay vi e6.symm)
    | exact H.rt (ay vi (by rw [jI,nA,au (by omega)]))
  intro Af a H
  try have zI:=dF Af
  refine kP H (Kc jQ (SC (Rd rfl (Rm rfl ?_))));clear H jQ;intro a H;refine aH ?_;refine cB ((n+1)) (by exact (H.dx (Pl:=[_,_]) (bZ:=[_]) [1] (by decide) rfl).sub ⟨rfl,rfl,rfl,rfl,av⟩) ?_ ?_
  ·exact ⟨by omega,by rw [lG hn2,List.any_append,hno];simp [Jd];omega⟩
  first|omega|(dsimp only;omega)
 intro nN a H
 try have yD:=dF nN
 refine dJ ?_;refine jm _ _ ?_;clear jm;refine aN (fun _ lZ=>?_)
 have q6:¬ x.props.any (fun p=>Jd p.key)=true:=by
  rw [show x.props.take n=x.props from mF (by omega)] at hno;rw [hno];decide
 have e0:jI l k x=iM (if x.kind=1 then 2 else 1) x.props:=by rw [jI,nA,ah (by omega),ah q1',ah q2',ah q3,ah q4,ah q5,ah q6]
 refine dI hmx [[],[0],[0,1],[],[3],(ra 0 5),(ra 0 6)] [5,6] (by kernel_rfl) [_,vi x.kind,vi (if x.kind=1 then 2 else 1),_,.slice pA x.props.length pc] H (aI (Z0 rfl (Rf ze rfl)) (Z1 0 93 rfl (Ro aD 0 rfl)) ?_ (Z0 rfl (Rf Sb rfl)) (bG (Z1 3 96 rfl (Ro zM 0 rfl)) (bG (cZ rfl) (bG (cZ rfl) dQ)))) ?_
 ·refine fq 1 94 rfl rfl fun _ a w G1 hG HT H fin=>?_;refine s_call agX H wn rfl (agk _ _ H.ro x.kind) rfl ?_;clear H;rintro v95 G95 a w rfl ajd H;exact fin H ajd (rfl)
 clear H;intro a w G Jz H hv;have H:=H.bC (hv 2 95 rfl rfl) rfl;have H:=H.bC (hv 4 97 rfl rfl) rfl;clear hv;refine s_call R6 H wn rfl (VK _ _ H.ro _ x.props _ (FC.mono Jz)) rfl ?_;clear H;rintro v98 Xi a w rfl JM H;refine kH H (Ra rfl ?_);clear H;intro a H;refine aH ⟨rfl,?_⟩;refine lZ _ _ ?_;clear lZ;refine lr H results153 rfl ?_
 first
  | exact H.rt (ay vi e0.symm)
  | exact H.rt (ay vi e4.symm)
  | exact H.rt (ay vi e7.symm)
  | exact H.rt (ay vi e13.symm)
  | exact H.rt (ay vi e3.symm)
  | exact H.rt (ay vi e6.symm)
  | exact H.rt (ay vi (by rw [jI,nA,au (by omega)]))
end
end Go.Proofs.YthmanofbmnfemaaGreat
